/- Joined: Refc, Refd, Refe, Reff, Refg, Matf, Matg, Math, Mati. -/
import Derived.Test.YtncbjgblcofddaaGreatDoorQc
import Derived.Laws.CopyRow
/- The reference's integers: sum,difference,Add,Sub. -/
namespace Go.Proofs.YtncbjgblcofddaaGreatDoor
open Go Go.Eng Go.Num Go.Proofs
theorem val_take_succ' (l:List Nat) (k:Nat):val (l.take (k + 1)) = val (l.take k) + B ^ k * l.getD k 0:=by
 by_cases h:k < l.length
 · exact val_take_succ l k h
 · rw [val_take_ge _ _ (by omega),val_take_ge _ _ (by omega)]
   simp [List.getD,h]
theorem val_snoc (l:List Nat) (x:Nat):val (l ++ [x]) = val l + B ^ l.length * x:=by rw [val_append]; simp [val]
theorem lim_snoc {l:List Nat} (h:Lim l) {x:Nat} (hx:x < 4294967296):Lim (l ++ [x]):=by
 intro y hy
 rcases List.mem_append.1 hy with h' | h'
 · exact h y h'
 · simp at h'; rw [h']; exact hx
def OwL (w:World) (base:Nat) (v:Value) (l:List Nat):Prop:=Lim l∧w.ownsRow base 107 1 v l.length (l.map fun x=>Value.int .u32 ((x:Nat):Int))
theorem OwL.nil (w:World) (base:Nat):OwL w base (.slice none 0 0) []:=⟨(fun _ h=>by cases h),World.ownsRow_nil _ _ _ _⟩
theorem OwL.ext {w w':World} {base:Nat} {v:Value} {l:List Nat} (h:OwL w base v l) (hE:Ext w w'):OwL w' base v l:=by
 refine ⟨h.1,h.2.1,?_⟩
 rcases h.2.2 with h' | ⟨g,cap,cur,h1,h2,h3,h4⟩
 · exact .inl h'
 · have hb:Blk w g 107 cur:=h3
   exact .inr ⟨g,cap,cur,h1,h2,hb.ext hE,h4⟩
theorem OwL.blk {w:World} {base:Nat} {v:Value} {l:List Nat} (h:OwL w base v l) {b:Nat} (hb:some b = v.ownBlock):base≤b:=by
 rcases h.2.2 with ⟨rfl,_⟩ | ⟨g,cap,cur,rfl,h2,_⟩
 · simp [Value.ownBlock] at hb
 · simp [Value.ownBlock] at hb; omega
def LimV (w:World) (v:Value) (N m:Nat):Prop:=∃ A l c,v = .slice A l.length c∧l.length≤c∧c < 9223372036854775808∧Mag w A l∧l.length≤N∧val l = m
theorem OwL.limV {w:World} {base N:Nat} {v:Value} {l:List Nat} (h:OwL w base v l) (hN:l.length≤N):LimV w v N (val l):=by
 rcases own_lb h.2 with ⟨rfl,rfl⟩ | ⟨g,c,rfl,_,h1,h2,h3⟩
 · exact ⟨none,[],0,rfl,Nat.le_refl _,by omega,Mag.nil _ _,by simp,rfl⟩
 · exact ⟨_,l,c,rfl,h1,by omega,h3.mag h.1,hN,rfl⟩
section
variable {n:Nat} {S:World→World→Prop} {k:Nat} {K:Fr→World→Prop} {f:Fr} {w:World}
 {d ty t t2:Nat} {x y:Operand} {pos:String} {aft:Array Edge} {gd:Option (Nat × Bool)}
theorem R1_push {base g a:Nat} {v:Value} {l:List Nat} (hk:k = 2) (hx:ev n f x = v) (hown:OwL w base v l) (hy:ev n f y = .slice (some ⟨g,0,none⟩) 1 1) (hb:Blk w g 107 #[.int .u32 ((a:Nat):Int)]) (ha:a < 4294967296)
 (hl:l.length < 4398046511104) (hbase:base≤w.heap.size)
 (h:∀ v' w',OwL w' base v' (l ++ [a])→Ch (fun b=>some b = v.ownBlock) w w'→K (upd f d v') w') :
 R1 Tryz.prog n S k ⟨some d,.call { callee:=.builtin .append,args:=#[x,y],argTypes:=#[39,39] },ty,pos,aft,gd⟩ K f w:=by
 refine R1_append (base:=base) (m0:=l.length) (m:=1) (news:=[.int .u32 ((a:Nat):Int)]) (v:=v) sl_u32 rfl (by decide) (.inl hk) hx hown.2 hy rfl (fun j u hj=>?_) (fun u hu=>by simp at hu; subst hu; rfl) (by omega) (by omega) hbase ?_
 · match j,hj with
   | 0,hj=>simp at hj; subst hj; exact ⟨_,rfl,by rw [add_lit,hb.cell]; rfl⟩
   | j + 1,hj=>simp at hj
 · intro v' w' ho hC _
   refine h v' w' ⟨lim_snoc hown.1 ha,?_⟩ hC
   rw [List.length_append,List.map_append]
   exact ho
end
set_option maxHeartbeats 8000000 in
theorem rsum_ok (A1 A2:Option Addr) (n1 n2 c1 c2:Nat) (l1 l2:List Nat) (w:World) (h1:Mag w A1 l1) (h2:Mag w A2 l2) (hn1:l1.length = n1) (hn2:l2.length = n2) (hl1:n1 < 1099511627776) (hl2:n2 < 1099511627776) :
 Meets Tryz.prog 98 #[.slice A1 n1 c1,.slice A2 n2 c2] w fun v w'=>Ext w w'∧LimV w' v (n1 + n2 + 1) (val l1 + val l2):=by
 subst hn1 hn2
 refine fn_W (n:=54) Tryz.func98 rfl rfl (by kernel_rfl) (by simp) ?_
 refine gg ?_
 refine W_seqM (fun f w'=>∃ v l c,f 5 = v∧f 6 = .int .u64 ((c:Nat):Int)∧Ext w w'∧OwL w' w.heap.size v l∧l.length≤l1.length + l2.length∧c≤1∧val l + c * B ^ l.length = val l1 + val l2) ?_ ?_
 · refine gg ?_
   refine W_loop (fun m f w'=>∃ i v l c,m = l1.length + l2.length - i∧f 0 = .slice A1 l1.length c1∧f 1 = .slice A2 l2.length c2∧f 5 = v∧f 6 = .int .u64 ((c:Nat):Int)∧f 7 = .int .i64 ((i:Nat):Int)∧Ext w w'∧OwL w' w.heap.size v l∧l.length = i∧i≤l1.length + l2.length∧c≤1 ∧
    val l + c * B ^ i = val (l1.take i) + val (l2.take i)) (l1.length + l2.length) ⟨0,_,[],0,rfl,rfl,rfl,rfl,rfl,rfl,Ext.refl _,OwL.nil _ _,rfl,by omega,by omega,by simp [val]⟩ ?_
   rintro m f w1 ⟨i,v,l,c,rfl,hf0,hf1,hf5,hf6,hf7,hE,hO,hl,hi,hc,hv⟩
   rw [ui hf0,ui hf1,ui hf5,ui hf6,ui hf7]
   clear hf0 hf1 hf5 hf6 hf7
   refine W_seq ?_
   have bx:=h1.lim.getD i
   have bY:=h2.lim.getD i
   by_cases hcont:i < l1.length ∨ i < l2.length
   · by_cases hi1:i < l1.length
     · obtain ⟨ad,rfl,hc1⟩:=(h1.ext hE).at (j:=i) (by omega)
       have hx:=hc1 i (by omega)
       refine gg ?_
       refine W_seqM (fun f w'=>w1 = w'∧f 0 = .slice (some ad) l1.length c1∧f 1 = .slice A2 l2.length c2∧f 5 = v∧f 6 = .int .u64 ((c + l1.getD i 0:Nat):Int)∧f 7 = .int .i64 ((i:Nat):Int)) ?_ ?_
       · refine W_seq ?_
         refine gg ?_
         exact ⟨rfl,rfl,rfl,rfl,rfl,rfl⟩
       rintro f w' ⟨rfl,hf0,hf1,hf5,hf6,hf7⟩
       rw [ui hf0,ui hf1,ui hf5,ui hf6,ui hf7]
       clear hf0 hf1 hf5 hf6 hf7 hx
       refine W_seqM (fun f w'=>w1 = w'∧f 0 = .slice (some ad) l1.length c1∧f 1 = .slice A2 l2.length c2∧f 5 = v∧f 6 = .int .u64 ((c + l1.getD i 0 + l2.getD i 0:Nat):Int)∧f 7 = .int .i64 ((i:Nat):Int)) ?_ ?_
       · refine W_seq ?_
         by_cases hi2:i < l2.length
         · obtain ⟨ad',rfl,hc2⟩:=(h2.ext hE).at (j:=i) (by omega)
           have hy:=hc2 i (by omega)
           refine gg ?_
           exact ⟨rfl,rfl,rfl,rfl,rfl,rfl⟩
         · have:l2.getD i 0 = 0:=by simp [List.getD,hi2]
           refine gg ?_
           exact ⟨rfl,rfl,rfl,rfl,by rw [this]; rfl,rfl⟩
       rintro f w' ⟨rfl,hf0,hf1,hf5,hf6,hf7⟩
       rw [ui hf0,ui hf1,ui hf5,ui hf6,ui hf7]
       clear hf0 hf1 hf5 hf6 hf7
       refine gg ?_
       refine R1_build1 sl_u32 rfl (.inl rfl) rfl rfl ?_
       intro w2 hB2 hE2 hs2
       refine gg ?_
       refine R1_push rfl rfl (hO.ext hE2) rfl hB2 (Nat.mod_lt _ (by decide)) (by omega) (by have:=hE.size; omega) ?_
       intro v' w3 hO3 hC3
       refine gg ?_
       refine ⟨_,?_,i + 1,v',_,_,rfl,rfl,rfl,rfl,rfl,rfl,hC3.ext_of (hE.trans hE2) (fun b hb=>hO.blk hb),hO3,by simp [hl],by omega,?_,?_⟩
       · omega
       · omega
       · have e:=add_step (B ^ i) (val l) c _ (l1.getD i 0) (l2.getD i 0) hv
         rw [val_snoc,hl,val_take_succ' l1,val_take_succ' l2,Nat.pow_succ,Nat.add_assoc c]
         refine e.trans ?_
         omega
     · have hi2:i < l2.length:=by omega
       have hx0:l1.getD i 0 = 0:=by simp [List.getD,hi1]
       obtain ⟨ad',rfl,hc2⟩:=(h2.ext hE).at (j:=i) (by omega)
       have hy:=hc2 i (by omega)
       refine gg ?_
       refine W_seq ?_
       refine W_seq ?_
       refine gg ?_
       refine W_seq ?_
       refine W_seq ?_
       refine gg ?_
       refine R1_build1 sl_u32 rfl (.inl rfl) rfl rfl ?_
       intro w2 hB2 hE2 hs2
       refine gg ?_
       refine R1_push rfl rfl (hO.ext hE2) rfl hB2 (Nat.mod_lt _ (by decide)) (by omega) (by have:=hE.size; omega) ?_
       intro v' w3 hO3 hC3
       refine gg ?_
       refine ⟨_,?_,i + 1,v',_,_,rfl,rfl,rfl,rfl,rfl,rfl,hC3.ext_of (hE.trans hE2) (fun b hb=>hO.blk hb),hO3,by simp [hl],by omega,?_,?_⟩
       · omega
       · omega
       · have e:=add_step1 (B ^ i) (val l) c _ (l2.getD i 0) hv
         rw [val_snoc,hl,val_take_succ' l1,val_take_succ' l2,Nat.pow_succ,hx0,Nat.mul_zero,Nat.add_zero]
         refine e.trans ?_
         omega
   · refine gg ?_
     rw [val_take_ge l1 i (by omega),val_take_ge l2 i (by omega)] at hv
     exact ⟨v,l,c,rfl,rfl,hE,hO,by omega,hc,by rw [hl]; exact hv⟩
 · rintro f w1 ⟨v,l,c,hf5,hf6,hE,hO,hl,hc,hv⟩
   rw [ui hf5,ui hf6]
   clear hf5 hf6
   refine gg ?_
   refine R1_build1 sl_u32 rfl (.inl rfl) rfl rfl ?_
   intro w2 hB2 hE2 hs2
   refine gg ?_
   refine R1_push rfl rfl (hO.ext hE2) rfl hB2 (Nat.mod_lt _ (by decide)) (by omega) (by have:=hE.size; omega) ?_
   intro v' w3 hO3 hC3
   refine gg ?_
   refine ret1 (v:=v') rfl rfl ⟨hC3.ext_of (hE.trans hE2) (fun b hb=>hO.blk hb),?_⟩
   have:=hO3.limV (N:=l1.length + l2.length + 1) (by simp; omega)
   rw [val_snoc,Nat.mod_eq_of_lt (by omega),Nat.mul_comm,hv] at this
   exact this
end Go.Proofs.YtncbjgblcofddaaGreatDoor
namespace Go.Proofs.YtncbjgblcofddaaGreatDoor
open Go Go.Eng Go.Num Go.Proofs
theorem rsub_limb (a x:Nat) (ha:a < 4294967296) (hx:x≤4294967296):(a + (18446744073709551616 - x)) % 18446744073709551616 % 4294967296 + x = a + 4294967296 * (if a < x then 1 else 0):=by
 split <;> omega
set_option maxHeartbeats 8000000 in
theorem rdifference_ok (A1 A2:Option Addr) (n1 n2 c1 c2:Nat) (l1 l2:List Nat) (w:World) (h1:Mag w A1 l1) (h2:Mag w A2 l2) (hn1:l1.length = n1) (hn2:l2.length = n2) (hl1:n1 < 1099511627776) (hl:n2≤n1) (hle:val l2≤val l1) :
 Meets Tryz.prog 99 #[.slice A1 n1 c1,.slice A2 n2 c2] w fun v w'=>Ext w w'∧LimV w' v n1 (val l1 - val l2):=by
 subst hn1 hn2
 refine fn_W (n:=46) Tryz.func99 rfl rfl (by kernel_rfl) (by simp) ?_
 refine gg ?_
 refine W_seq ?_
 refine gg ?_
 refine W_loop (fun m f w'=>∃ i v l br,m = l1.length - i∧i≤l1.length∧f 0 = .slice A1 l1.length c1∧f 1 = .slice A2 l2.length c2∧f 5 = v∧f 6 = .int .u64 ((br:Nat):Int)∧f 7 = .int .i64 ((i:Nat):Int)∧Ext w w'∧OwL w' w.heap.size v l∧l.length = i∧br≤1 ∧
  val l + val (l2.take i) = val (l1.take i) + br * B ^ i) l1.length ⟨0,_,[],0,rfl,by omega,rfl,rfl,rfl,rfl,rfl,Ext.refl _,OwL.nil _ _,rfl,by omega,by simp [val]⟩ ?_
 rintro m f w1 ⟨i,v,l,br,rfl,hi,hf0,hf1,hf5,hf6,hf7,hE,hO,hll,hbr,hv⟩
 rw [ui hf0,ui hf1,ui hf5,ui hf6,ui hf7]
 clear hf0 hf1 hf5 hf6 hf7
 refine W_seq ?_
 have bx:=h1.lim.getD i
 have bY:=h2.lim.getD i
 by_cases hlt:i < l1.length
 · obtain ⟨ad,rfl,hc1⟩:=(h1.ext hE).at (j:=i) (by omega)
   have hx:=hc1 i (by omega)
   refine gg ?_
   refine W_seqM (fun f w'=>w1 = w'∧f 0 = .slice (some ad) l1.length c1∧f 1 = .slice A2 l2.length c2∧f 5 = v∧f 7 = .int .i64 ((i:Nat):Int)∧f 8 = .int .u64 ((br + l2.getD i 0:Nat):Int)) ?_ ?_
   · refine W_seq ?_
     by_cases hi2:i < l2.length
     · obtain ⟨ad',rfl,hc2⟩:=(h2.ext hE).at (j:=i) (by omega)
       have hy:=hc2 i (by omega)
       refine gg ?_
       exact ⟨rfl,rfl,rfl,rfl,rfl,rfl⟩
     · have:l2.getD i 0 = 0:=by simp [List.getD,hi2]
       refine gg ?_
       exact ⟨rfl,rfl,rfl,rfl,rfl,by rw [this]; rfl⟩
   rintro f w' ⟨rfl,hf0,hf1,hf5,hf7,hf8⟩
   rw [ui hf0,ui hf1,ui hf5,ui hf7,ui hf8]
   clear hf0 hf1 hf5 hf7 hf8
   refine gg ?_
   refine R1_subm_u64 rfl rfl (by omega) ?_
   refine gg ?_
   refine R1_build1 sl_u32 rfl (.inl rfl) rfl rfl ?_
   intro w2 hB2 hE2 hs2
   refine gg ?_
   refine R1_push rfl rfl (hO.ext hE2) rfl hB2 (Nat.mod_lt _ (by decide)) (by omega) (by have:=hE.size; omega) ?_
   intro v' w3 hO3 hC3
   have hE3:Ext w w3:=hC3.ext_of (hE.trans hE2) (fun b hb=>hO.blk hb)
   obtain ⟨ad2,e2,hc3⟩:=(h1.ext hE3).at (j:=i) (by omega)
   injection e2 with e2; subst e2
   have hx3:=hc3 i (by omega)
   have hs:=rsub_limb (l1.getD i 0) (br + l2.getD i 0) bx (by omega)
   have key:∀ nb,nb = (if l1.getD i 0 < br + l2.getD i 0 then 1 else 0)→val (l ++ [(l1.getD i 0 + (18446744073709551616 - (br + l2.getD i 0))) % 18446744073709551616 % 4294967296]) + val (l2.take (i + 1)) = val (l1.take (i + 1)) + nb * B ^ (i + 1):=fun nb hnb=>by
    rw [← hnb] at hs
    rw [val_snoc,hll,val_take_succ' l1,val_take_succ' l2,Nat.pow_succ]
    exact sub_step (B ^ i) (val l) (val (l2.take i)) (val (l1.take i)) (l1.getD i 0) (l2.getD i 0) br _ nb hv (by show _ = _ + 4294967296 * nb; omega)
   by_cases hb:l1.getD i 0 < br + l2.getD i 0
   · refine gg ?_
     refine ⟨_,?_,i + 1,v',_,1,rfl,by omega,rfl,rfl,rfl,rfl,rfl,hE3,hO3,by simp [hll],by omega,key 1 (by rw [if_pos hb])⟩
     omega
   · refine gg ?_
     refine ⟨_,?_,i + 1,v',_,0,rfl,by omega,rfl,rfl,rfl,rfl,rfl,hE3,hO3,by simp [hll],by omega,key 0 (by rw [if_neg hb])⟩
     omega
 · refine gg ?_
   have:i = l1.length:=by omega
   subst this
   rw [val_take_ge l1 _ (by omega),val_take_ge l2 _ (by omega)] at hv
   have b0:=val_lt l hO.1
   have:br = 0:=by
    rcases Nat.lt_or_ge 0 br with h | h
    · have:B ^ l1.length≤br * B ^ l1.length:=Nat.le_mul_of_pos_left _ h
      rw [hll] at b0; omega
    · omega
   subst this
   refine ret1 (v:=v) rfl rfl ⟨hE,?_⟩
   have:=hO.limV (N:=l1.length) (by omega)
   rw [show val l = val l1 - val l2 by omega] at this
   exact this
set_option maxHeartbeats 8000000 in
theorem radd_ok (x1 y1 x2 y2:Value) (z1 z2:Int) (N:Nat) (w:World) (h1:IV w N x1 y1 z1) (h2:IV w N x2 y2 z2) (hN:N < 137438953472) :
 Meets Tryz.prog 41 #[.agg #[x1,y1],.agg #[x2,y2]] w (RI w (z1 + z2)):=by
 obtain ⟨g1,A1,l1,c1,rfl,rfl,hc1,hd1,hM1,hl1,rfl⟩:=h1
 obtain ⟨g2,A2,l2,c2,rfl,rfl,hc2,hd2,hM2,hl2,rfl⟩:=h2
 refine fn_W (n:=40) Tryz.func41 rfl rfl (by kernel_rfl) (by simp) ?_
 refine gg ?_
 refine R1_box (v:=.agg _) (.inl rfl) rfl ?_
 intro w1 hB1 hE1 hs1
 refine gg ?_
 refine R1_box (v:=.agg _) (.inl rfl) rfl ?_
 intro w2 hB2 hE2 hs2
 refine gg ?_
 refine R1_alloc (.inl rfl) z_Int ?_
 intro w3 hB3 hE3 hs3
 have hR3:Bx w3 w2.heap.size 1 true 0:=Bx.zero true hB3
 obtain ⟨gR,hgR⟩ : ∃ g,g = w2.heap.size:=⟨_,rfl⟩
 rw [← hgR] at hR3 ⊢
 have hE13:=hE1.trans (hE2.trans hE3)
 refine gg ?_
 refine W_seqD [(0,3),(1,0),(3,3),(4,0),(2,1),(5,1),(6,3),(7,3)] mixed (by kernel_rfl) (fun w4 hE4 _=>?_)
 have hB14:=hB1.ext (hE2.trans (hE3.trans hE4))
 have hB24:=hB2.ext (hE3.trans hE4)
 have f1:=blk1 hB14
 have f3:=blk1 hB24
 refine gg ?_
 refine R1_call1 (rtrim_ok _ _ _ _ w4 (hM1.ext (hE13.trans hE4)) rfl hc1 (by omega)) ?_
 rintro _ w5 ⟨hE5,hV5⟩
 refine ⟨hE5,?_⟩
 refine gg ?_
 refine R1_call1 (rtrim_ok _ _ _ _ w5 (hM2.ext ((hE13.trans hE4).trans hE5)) rfl hc2 (by omega)) ?_
 rintro _ w6 ⟨hE6,hV6⟩
 refine ⟨hE6,?_⟩
 obtain ⟨T1,t1,d1,rfl,hd1',hd1'',hT1,ht1,hv1⟩:=hV5.ext hE6
 obtain ⟨T2,t2,d2,rfl,hd2',hd2'',hT2,ht2,hv2⟩:=hV6
 have hlt1:t1.length≤N:=by have:=len_le hM1.lim ht1 (Nat.le_of_eq hv1); omega
 have hlt2:t2.length≤N:=by have:=len_le hM2.lim ht2 (Nat.le_of_eq hv2); omega
 have hE46:=hE4.trans (hE5.trans hE6)
 have hE16:=hE13.trans hE46
 have hB16:=hB1.ext (hE2.trans (hE3.trans hE46))
 have hB26:=hB2.ext (hE3.trans hE46)
 have hR6:=hR3.ext hE46
 have hgw:w.heap.size≤gR:=by have:=(hE1.trans hE2).size; omega
 clear f1 f3 hB14 hB24 hE4 hE5 hE6 hE46 hE13 hE3 hE2 hE1 hB1 hB2 hB3 hR3 hs1 hs2 hs3 hgR hV5
 have f0:=blk0 hB16
 have f2:=blk0 hB26
 refine gg ?_
 by_cases hb:g1 = g2
 · have e0:(g1 == g2) = true:=by simpa using hb
   refine W_seq ?_
   refine gg ?_
   rw [e0]
   refine gg ?_
   refine W_seqD [(0,3),(1,0),(2,3),(3,3),(4,1),(5,1),(6,2)] mixed (by kernel_rfl) (fun w7 hE7 _=>?_)
   have g0:=cell_ext hE7 f0
   refine gg ?_
   refine R1_call1 (rsum_ok _ _ _ _ _ _ t1 t2 w7 (hT1.ext hE7) (hT2.ext hE7) rfl rfl (by omega) (by omega)) ?_
   rintro _ w8 ⟨hE8,A,l,c,rfl,hlc,hc2,hM,hlN,hv⟩
   refine ⟨hE8,?_⟩
   refine gg ?_
   refine R1_call1 (make_ok g1 _ _ _ l w8 hM rfl hlc (by omega)) ?_
   rintro _ w9 ⟨hE9,x,y,rfl,hcv⟩
   refine ⟨hE9,?_⟩
   refine gg ?_
   obtain ⟨ox,oy,hoB,hov⟩:=hR6.ext (hE7.trans (hE8.trans hE9))
   refine R1_store2 agg_Int (.inl rfl) rfl rfl hcv.one0 hcv.one1 hoB (by simp) ?_
   intro w10 hB10 hC10 hs10
   refine gg ?_
   refine retC rfl agg_Int rfl hB10 ⟨hC10.ext_of (hE16.trans (hE7.trans (hE8.trans hE9))) (fun b hb=>by omega),x,y,rfl,?_⟩
   have e:sg g1 (val l) = sg g1 (val l1) + sg g2 (val l2):=by
    rw [hv,hv1,hv2,← hb]; cases g1 <;> simp [sg]; omega
   rw [← e]
   exact hcv.kp (kp_ch hoB hov.1.noU hC10)
 · have e0:(g1 == g2) = false:=by simpa using hb
   refine W_seq ?_
   refine gg ?_
   rw [e0]
   refine gg ?_
   refine W_seq ?_
   refine gg ?_
   refine R1_call2 (rcmp_ok _ _ _ _ _ _ t1 t2 w6 hT1 hT2 rfl rfl (by omega) (by omega) ht1 ht2) ?_
   rintro _ w7 ⟨hE7,rfl⟩
   by_cases hcmp:val t2≤val t1
   · have hge:(0:Int)≤cmpZ (val t1) (val t2):=by unfold cmpZ; rw [if_neg (by omega)]; split <;> decide
     have g0:=cell_ext hE7 f0
     refine gg ?_
     refine W_seqD [(0,3),(1,0),(2,3),(3,3),(4,1),(5,1),(6,2)] mixed (by kernel_rfl) (fun w8 hE8 _=>?_)
     have g0:=cell_ext hE8 g0
     have hE68:=hE7.trans hE8
     refine gg ?_
     refine R1_call1 (rdifference_ok _ _ _ _ _ _ t1 t2 w8 (hT1.ext hE68) (hT2.ext hE68) rfl rfl (by omega) (len_le hT1.lim ht2 hcmp) hcmp) ?_
     rintro _ w9 ⟨hE9,A,l,c,rfl,hlc,hc2,hM,hlN,hv⟩
     refine ⟨hE9,?_⟩
     refine gg ?_
     refine R1_call1 (make_ok g1 _ _ _ l w9 hM rfl hlc (by omega)) ?_
     rintro _ w10 ⟨hE10,x,y,rfl,hcv⟩
     refine ⟨hE10,?_⟩
     refine gg ?_
     obtain ⟨ox,oy,hoB,hov⟩:=hR6.ext (hE68.trans (hE9.trans hE10))
     refine R1_store2 agg_Int (.inl rfl) rfl rfl hcv.one0 hcv.one1 hoB (by simp) ?_
     intro w11 hB11 hC11 hs11
     refine gg ?_
     refine retC rfl agg_Int rfl hB11 ⟨hC11.ext_of (hE16.trans (hE68.trans (hE9.trans hE10))) (fun b hb=>by omega),x,y,rfl,?_⟩
     have e:sg g1 (val l) = sg g1 (val l1) + sg g2 (val l2):=by
      rw [hv,hv1,hv2]; rw [hv1,hv2] at hcmp
      cases g1 <;> cases g2 <;> simp [sg] at hb ⊢ <;> omega
     rw [← e]
     exact hcv.kp (kp_ch hoB hov.1.noU hC11)
   · have hge:¬ (0:Int)≤cmpZ (val t1) (val t2):=by unfold cmpZ; rw [if_pos (by omega)]; decide
     have g0:=cell_ext hE7 f2
     refine gg ?_
     refine W_seqD [(0,3),(1,0),(2,3),(3,3),(4,1),(5,1),(6,2)] mixed (by kernel_rfl) (fun w8 hE8 _=>?_)
     have g0:=cell_ext hE8 g0
     have hE68:=hE7.trans hE8
     refine gg ?_
     refine R1_call1 (rdifference_ok _ _ _ _ _ _ t2 t1 w8 (hT2.ext hE68) (hT1.ext hE68) rfl rfl (by omega) (len_le hT2.lim ht1 (by omega)) (by omega)) ?_
     rintro _ w9 ⟨hE9,A,l,c,rfl,hlc,hc2,hM,hlN,hv⟩
     refine ⟨hE9,?_⟩
     refine gg ?_
     refine R1_call1 (make_ok g2 _ _ _ l w9 hM rfl hlc (by omega)) ?_
     rintro _ w10 ⟨hE10,x,y,rfl,hcv⟩
     refine ⟨hE10,?_⟩
     refine gg ?_
     obtain ⟨ox,oy,hoB,hov⟩:=hR6.ext (hE68.trans (hE9.trans hE10))
     refine R1_store2 agg_Int (.inl rfl) rfl rfl hcv.one0 hcv.one1 hoB (by simp) ?_
     intro w11 hB11 hC11 hs11
     refine gg ?_
     refine retC rfl agg_Int rfl hB11 ⟨hC11.ext_of (hE16.trans (hE68.trans (hE9.trans hE10))) (fun b hb=>by omega),x,y,rfl,?_⟩
     have e:sg g2 (val l) = sg g1 (val l1) + sg g2 (val l2):=by
      rw [hv,hv1,hv2]; rw [hv1,hv2] at hcmp
      cases g1 <;> cases g2 <;> simp [sg] at hb ⊢ <;> omega
     rw [← e]
     exact hcv.kp (kp_ch hoB hov.1.noU hC11)
set_option maxHeartbeats 8000000 in
theorem rsub_ok (x1 y1 x2 y2:Value) (z1 z2:Int) (N:Nat) (w:World) (h1:IV w N x1 y1 z1) (h2:IV w N x2 y2 z2) (hN:N < 137438953472) :
 Meets Tryz.prog 146 #[.agg #[x1,y1],.agg #[x2,y2]] w (RI w (z1 - z2)):=by
 refine fn_W (n:=9) Tryz.func146 rfl rfl (by kernel_rfl) (by simp) ?_
 refine gg ?_
 refine R1_box (v:=.agg _) (.inl rfl) rfl ?_
 intro w1 hB1 hE1 hs1
 refine gg ?_
 refine R1_box (v:=.agg _) (.inl rfl) rfl ?_
 intro w2 hB2 hE2 hs2
 refine gg ?_
 refine R1_alloc (.inl rfl) z_Int ?_
 intro w3 hB3 hE3 hs3
 have hR3:Bx w3 w2.heap.size 1 true 0:=Bx.zero true hB3
 obtain ⟨gR,hgR⟩ : ∃ g,g = w2.heap.size:=⟨_,rfl⟩
 rw [← hgR] at hR3 ⊢
 have hE13:=hE1.trans (hE2.trans hE3)
 refine gg ?_
 refine W_seqD [(0,0),(1,0),(2,1),(3,1),(4,2)] mixed (by kernel_rfl) (fun w4 hE4 _=>?_)
 obtain ⟨f0,f1⟩:=blkP (hB1.ext (hE2.trans (hE3.trans hE4)))
 obtain ⟨f2,f3⟩:=blkP (hB2.ext (hE3.trans hE4))
 have hE14:=hE13.trans hE4
 refine gg ?_
 refine R1_call1 (rneg_ok _ _ _ N w4 (h2.ext hE14) (by omega)) ?_
 rintro _ w5 ⟨hE5,a,b,rfl,hc⟩
 refine ⟨hE5,?_⟩
 refine gg ?_
 refine R1_call1 (radd_ok _ _ _ _ _ _ N w5 (h1.ext (hE14.trans hE5)) (hc.iv (IV.bd h2).neg) hN) ?_
 rintro _ w6 ⟨hE6,x,y,rfl,hcv⟩
 refine ⟨hE6,?_⟩
 refine gg ?_
 obtain ⟨ox,oy,hoB,hov⟩:=hR3.ext (hE4.trans (hE5.trans hE6))
 refine R1_store2 agg_Int (.inl rfl) rfl rfl hcv.one0 hcv.one1 hoB (by simp) ?_
 intro w7 hB7 hC7 hs7
 refine gg ?_
 refine retC rfl agg_Int rfl hB7 ⟨hC7.ext_of (hE14.trans (hE5.trans hE6)) (fun b hb=>by have:=(hE1.trans hE2).size; omega),x,y,rfl,?_⟩
 rw [Int.sub_eq_add_neg]
 exact hcv.kp (kp_ch hoB hov.1.noU hC7)
set_option maxHeartbeats 8000000 in
theorem rabs_ok (x y:Value) (z:Int) (N:Nat) (w:World) (h:IV w N x y z) (hN:N < 1099511627776) :
 Meets Tryz.prog 134 #[.agg #[x,y]] w (RI w (z.natAbs:Int)):=by
 obtain ⟨neg,A,l,c,rfl,rfl,hc,hc2,hM,hl,rfl⟩:=h
 refine fn_W (n:=6) Tryz.func134 rfl rfl (by kernel_rfl) (by simp) ?_
 refine gg ?_
 refine R1_box (v:=.agg _) (.inl rfl) rfl ?_
 intro w1 hB1 hE1 hs1
 refine gg ?_
 refine R1_alloc (.inl rfl) z_Int ?_
 intro w2 hB2 hE2 hs2
 have f1:=blk1 (hB1.ext hE2)
 refine gg ?_
 refine R1_call2 (make_ok false _ _ _ l w2 (hM.ext (hE1.trans hE2)) rfl hc (by omega)) ?_
 rintro _ w3 ⟨hE3,x,y,rfl,hcv⟩
 refine gg ?_
 refine R1_store2 agg_Int (.inl rfl) rfl rfl hcv.one0 hcv.one1 (hB2.ext hE3) (by decide) ?_
 intro w6 hB6 hC6 hs6
 refine gg ?_
 refine retC rfl agg_Int rfl hB6 ⟨hC6.ext_of ((hE1.trans hE2).trans hE3) (fun b hb=>by have:=hE1.size; omega),_,_,rfl,?_⟩
 rw [sg_abs]
 exact hcv.keep (hB2.ext hE3) noInt2 hC6
set_option maxHeartbeats 8000000 in
theorem rsign_ok (x y:Value) (z:Int) (N:Nat) (w:World) (h:IV w N x y z) (hN:N < 1099511627776) :
 Meets Tryz.prog 42 #[.agg #[x,y]] w fun v w'=>Ext w w'∧v = .int .i64 z.sign:=by
 obtain ⟨neg,A,l,c,rfl,rfl,hc,hc2,hM,hl,rfl⟩:=h
 refine fn_W (n:=12) Tryz.func42 rfl rfl (by kernel_rfl) (by simp) ?_
 refine gg ?_
 refine R1_box (v:=.agg _) (.inl rfl) rfl ?_
 intro w1 hB1 hE1 hs1
 have f0:=blk0 hB1
 have f1:=blk1 hB1
 refine gg ?_
 refine R1_call2 (rtrim_ok _ _ _ _ w1 (hM.ext hE1) rfl hc (by omega)) ?_
 rintro _ w2 ⟨hE2,T,t,d,rfl,hd1,hd2,hT,htr,htv⟩
 have f0:=cell_ext hE2 f0
 by_cases hm0:t.length = 0
 · refine gg ?_
   refine ret1 (v:=.int _ _) rfl rfl ⟨hE1.trans hE2,?_⟩
   have:val l = 0:=by rw [← htv,List.eq_nil_of_length_eq_zero hm0]; rfl
   rw [this]; cases neg <;> rfl
 · have hpos:0 < val l:=by
    rcases Nat.eq_zero_or_pos (val l) with h | h
    · exact absurd (by rw [val_zero htr (htv.trans h)]; rfl) hm0
    · exact h
   cases neg
   · refine gg ?_
     refine ret1 (v:=.int _ _) rfl rfl ⟨hE1.trans hE2,?_⟩
     rw [sg_false,Int.sign_eq_one_of_pos (by omega)]; rfl
   · refine gg ?_
     refine ret1 (v:=.int _ _) rfl rfl ⟨hE1.trans hE2,?_⟩
     rw [sg_true,Int.sign_eq_neg_one_of_neg (by omega)]
end Go.Proofs.YtncbjgblcofddaaGreatDoor
namespace Go.Proofs.YtncbjgblcofddaaGreatDoor
open Go Go.Eng Go.Num Go.Proofs
set_option maxHeartbeats 16000000 in
theorem rmul_ok (x1 y1 x2 y2:Value) (z1 z2:Int) (N:Nat) (w:World) (h1:IV w N x1 y1 z1) (h2:IV w N x2 y2 z2) (hN:N < 137438953472) :
 Meets Tryz.prog 26 #[.agg #[x1,y1],.agg #[x2,y2]] w (RI w (z1 * z2)):=by
 obtain ⟨g1,A1,l1,c1,rfl,rfl,hc1,hd1,hM1,hl1,rfl⟩:=h1
 obtain ⟨g2,A2,l2,c2,rfl,rfl,hc2,hd2,hM2,hl2,rfl⟩:=h2
 refine fn_W (n:=77) Tryz.func26 rfl rfl (by kernel_rfl) (by simp) ?_
 refine gg ?_
 refine R1_box (v:=.agg _) (.inl rfl) rfl ?_
 intro w1 hB1 hE1 hs1
 refine gg ?_
 refine R1_box (v:=.agg _) (.inl rfl) rfl ?_
 intro w2 hB2 hE2 hs2
 refine gg ?_
 refine R1_alloc (.inl rfl) z_Int ?_
 intro w3 hB3 hE3 hs3
 have hR3:Blk w3 w2.heap.size 41 #[.bool false,.slice none 0 0]:=hB3
 obtain ⟨ga,hga⟩ : ∃ g,g = w.heap.size:=⟨_,rfl⟩
 obtain ⟨gb,hgb⟩ : ∃ g,g = w1.heap.size:=⟨_,rfl⟩
 obtain ⟨gR,hgR⟩ : ∃ g,g = w2.heap.size:=⟨_,rfl⟩
 rw [← hgR] at hR3 ⊢
 rw [← hgb] at hB2 ⊢
 rw [← hga] at hB1 ⊢
 have hA3:=hB1.ext (hE2.trans hE3)
 have hB3':=hB2.ext hE3
 have a1:=blk1 hA3
 have b1:=blk1 hB3'
 refine gg ?_
 refine R1_make sl_u32 (.inl rfl) rfl rfl (Nat.le_refl _) (by omega) (by omega) ?_
 intro w4 hB4 hE4 hs4
 rw [cells_made] at hB4
 obtain ⟨gM,hgM⟩ : ∃ g,g = w3.heap.size:=⟨_,rfl⟩
 rw [← hgM] at hB4 ⊢
 have hE04:=hE1.trans (hE2.trans (hE3.trans hE4))
 have hA4:=hA3.ext hE4
 have hBb4:=hB3'.ext hE4
 have hR4:=hR3.ext hE4
 have hab:ga < gb∧gb < gR∧gR < gM∧w.heap.size≤ga:=by omega
 obtain ⟨hab1,hab2,hab3,hab4⟩:=hab
 clear hA3 hB3' hB3 hB1 hB2 hE1 hE2 hE3 hE4 hs1 hs2 hs3 hs4 hgR hgb hga hgM a1 b1 hR3
 have a1:=blk1 hA4
 have b1:=blk1 hBb4
 refine gg ?_
 refine W_seqM (fun f w'=>∃ L,f 2 = .pointer (some ⟨ga,0,none⟩)∧f 3 = .pointer (some ⟨gb,0,none⟩)∧f 4 = .pointer (some ⟨gR,0,none⟩)∧f 5 = .slice (some ⟨gM,0,none⟩) (l1.length + l2.length) (l1.length + l2.length)∧Ext w w' ∧
  Blk w' ga 41 #[.bool g1,.slice A1 l1.length c1]∧Blk w' gb 41 #[.bool g2,.slice A2 l2.length c2]∧Blk w' gR 41 #[.bool false,.slice none 0 0]∧Blk w' gM 107 (cells L)∧L.length = l1.length + l2.length∧Lim L∧val L = val l1 * val l2) ?_ ?_
 · refine gg ?_
   refine W_loop (fun m f w'=>∃ i L,m = l1.length - i∧i≤l1.length∧f 2 = .pointer (some ⟨ga,0,none⟩)∧f 3 = .pointer (some ⟨gb,0,none⟩)∧f 4 = .pointer (some ⟨gR,0,none⟩)∧f 5 = .slice (some ⟨gM,0,none⟩) (l1.length + l2.length) (l1.length + l2.length)∧f 20 = .slice A1 l1.length c1 ∧
    f 21 = .int .i64 ((l1.length:Nat):Int)∧f 22 = .int .i64 ((i:Nat):Int)∧Ext w w'∧Blk w' ga 41 #[.bool g1,.slice A1 l1.length c1]∧Blk w' gb 41 #[.bool g2,.slice A2 l2.length c2]∧Blk w' gR 41 #[.bool false,.slice none 0 0] ∧
    Blk w' gM 107 (cells L)∧L.length = l1.length + l2.length∧Lim L∧val L = val (l1.take i) * val l2∧∀ j,i + l2.length≤j→L.getD j 0 = 0)
    l1.length ⟨0,_,rfl,Nat.zero_le _,rfl,rfl,rfl,rfl,rfl,rfl,rfl,hE04,hA4,hBb4,hR4,hB4,by simp,lim_replicate _,by simp [val,val_zeros],fun j _=>getD_replicate _ _⟩ ?_
   clear hE04 hA4 hBb4 hR4 hB4 a1 b1 w4
   rintro m f w4 ⟨i,L,rfl,hi,hf2,hf3,hf4,hf5,hf20,hf21,hf22,hE,hA,hBb,hR,hB,hL,hLim,hv,hz⟩
   rw [ui hf2,ui hf3,ui hf4,ui hf5,ui hf20,ui hf21,ui hf22]
   clear hf2 hf3 hf4 hf5 hf20 hf21 hf22
   by_cases hlt:i < l1.length
   · obtain ⟨ad,rfl,hc⟩:=(hM1.ext hE).at (j:=i) (by omega)
     have hx:=hc i (by omega)
     have bx:=hM1.lim.getD i
     have b1:=blk1 hBb
     refine gg ?_
     refine W_seqM (fun f w'=>∃ cy L',f 2 = .pointer (some ⟨ga,0,none⟩)∧f 3 = .pointer (some ⟨gb,0,none⟩)∧f 4 = .pointer (some ⟨gR,0,none⟩)∧f 5 = .slice (some ⟨gM,0,none⟩) (l1.length + l2.length) (l1.length + l2.length)∧f 6 = .int .i64 ((i:Nat):Int)∧f 8 = .int .u64 ((cy:Nat):Int)∧f 20 = .slice (some ad) l1.length c1 ∧
      f 21 = .int .i64 ((l1.length:Nat):Int)∧f 22 = .int .i64 ((i:Nat):Int)∧Ext w w'∧Blk w' ga 41 #[.bool g1,.slice (some ad) l1.length c1]∧Blk w' gb 41 #[.bool g2,.slice A2 l2.length c2]∧Blk w' gR 41 #[.bool false,.slice none 0 0]∧Blk w' gM 107 (cells L')∧L'.length = l1.length + l2.length∧Lim L'∧cy < 4294967296 ∧
      val L' + cy * B ^ (i + l2.length) = val L + B ^ i * (l1.getD i 0 * val l2)∧∀ j,i + l2.length≤j→L'.getD j 0 = 0) ?_ ?_
     · refine gg ?_
       refine W_loop (fun m f w'=>∃ j cy L',m = l2.length - j∧j≤l2.length∧f 2 = .pointer (some ⟨ga,0,none⟩)∧f 3 = .pointer (some ⟨gb,0,none⟩)∧f 4 = .pointer (some ⟨gR,0,none⟩)∧f 5 = .slice (some ⟨gM,0,none⟩) (l1.length + l2.length) (l1.length + l2.length)∧f 6 = .int .i64 ((i:Nat):Int)∧f 7 = .int .u32 ((l1.getD i 0:Nat):Int)∧f 8 = .int .u64 ((cy:Nat):Int)∧f 20 = .slice (some ad) l1.length c1 ∧
        f 21 = .int .i64 ((l1.length:Nat):Int)∧f 22 = .int .i64 ((i:Nat):Int)∧f 28 = .slice A2 l2.length c2∧f 29 = .int .i64 ((l2.length:Nat):Int)∧f 30 = .int .i64 ((j:Nat):Int) ∧
        Ext w w'∧Blk w' ga 41 #[.bool g1,.slice (some ad) l1.length c1]∧Blk w' gb 41 #[.bool g2,.slice A2 l2.length c2]∧Blk w' gR 41 #[.bool false,.slice none 0 0]∧Blk w' gM 107 (cells L')∧L'.length = l1.length + l2.length∧Lim L'∧cy < 4294967296 ∧
        val L' + cy * B ^ (i + j) = val L + B ^ i * (l1.getD i 0 * val (l2.take j))∧(∀ q,i + j≤q→L'.getD q 0 = L.getD q 0))
        l2.length ⟨0,0,L,rfl,Nat.zero_le _,rfl,rfl,rfl,rfl,rfl,rfl,rfl,rfl,rfl,rfl,rfl,rfl,rfl,hE,hA,hBb,hR,hB,hL,hLim,by omega,by simp [val],fun _ _=>rfl⟩ ?_
       clear hB hE hA hBb hR hx hc b1 w4 f
       rintro m f w4 ⟨j,cy,L',rfl,hj,hf2,hf3,hf4,hf5,hf6,hf7,hf8,hf20,hf21,hf22,hf28,hf29,hf30,hE,hA,hBb,hR,hB,hL',hLim',hcy,hv',hsame⟩
       rw [ui hf2,ui hf3,ui hf4,ui hf5,ui hf6,ui hf7,ui hf8,ui hf20,ui hf21,ui hf22,ui hf28,ui hf29,ui hf30]
       clear hf2 hf3 hf4 hf5 hf6 hf7 hf8 hf20 hf21 hf22 hf28 hf29 hf30
       by_cases hjl:j < l2.length
       · obtain ⟨ad',rfl,hc'⟩:=(hM2.ext hE).at (j:=j) (by omega)
         have hy:=hc' j (by omega)
         have bY:=hM2.lim.getD j
         have hr:w4.cell? ⟨gM,0 + (i + j) * 1,none⟩ = some (.int .u32 ((L'.getD (i + j) 0:Nat):Int)):=cells_at hB (by omega)
         have br:=hLim'.getD (i + j)
         have bxy:=mul_small _ _ bx bY
         refine gg ?_
         refine R1_mul_u64 rfl rfl (by omega) ?_
         refine gg ?_
         refine R1_storeI (one_of rfl) (.inl rfl) rfl rfl hB (by rw [cells_size]; omega) ?_
         intro w5 hB5 hC5 hs5
         rw [cells_set] at hB5
         refine gg ?_
         refine ⟨_,?_,j + 1,_,_,rfl,by omega,rfl,rfl,rfl,rfl,rfl,rfl,rfl,rfl,rfl,rfl,rfl,rfl,rfl,hC5.ext_of hE (fun b hb=>by omega),hA.ch hC5 (by omega),hBb.ch hC5 (by omega),hR.ch hC5 (by omega),hB5,by simpa using hL',hLim'.set (Nat.mod_lt _ (by decide)),?_,?_,fun q hq=>by rw [Num.getD_set_ne (by omega)]; exact hsame q (by omega)⟩
         · omega
         · omega
         · have e:=mul_step _ _ _ (l1.getD i 0) (l2.getD j 0) (L'.getD (i + j) 0) _ hv' _ (val_set L' (i + j) _ (by omega))
           rw [val_take_succ l2 j (by omega),Nat.mul_add,Nat.mul_add,← Nat.add_assoc i j 1,Nat.pow_succ]
           refine e.trans ?_
           rw [Nat.pow_add,Nat.add_assoc]
           congr 2
           rw [Nat.mul_assoc,Nat.mul_left_comm (l1.getD i 0)]
       · refine gg ?_
         have:j = l2.length:=by omega
         subst this
         rw [val_take_all] at hv'
         exact ⟨cy,L',rfl,rfl,rfl,rfl,rfl,rfl,rfl,rfl,rfl,hE,hA,hBb,hR,hB,hL',hLim',hcy,hv',fun q hq=>by rw [hsame q hq]; exact hz q hq⟩
     · clear hB hE hA hBb hR hx hc b1 w4 f
       rintro f w4 ⟨cy,L',hf2,hf3,hf4,hf5,hf6,hf8,hf20,hf21,hf22,hE,hA,hBb,hR,hB,hL',hLim',hcy,hv',hz'⟩
       rw [ui hf2,ui hf3,ui hf4,ui hf5,ui hf6,ui hf8,ui hf20,ui hf21,ui hf22]
       clear hf2 hf3 hf4 hf5 hf6 hf8 hf20 hf21 hf22
       have b1:=blk1 hBb
       refine gg ?_
       refine R1_storeI (one_of rfl) (.inl rfl) rfl rfl hB (by rw [cells_size]; omega) ?_
       intro w5 hB5 hC5 hs5
       rw [cells_set] at hB5
       refine gg ?_
       refine ⟨_,?_,i + 1,_,rfl,by omega,rfl,rfl,rfl,rfl,rfl,rfl,rfl,hC5.ext_of hE (fun b hb=>by omega),hA.ch hC5 (by omega),hBb.ch hC5 (by omega),hR.ch hC5 (by omega),hB5,by simpa using hL',hLim'.set (Nat.mod_lt _ (by decide)),?_,fun q hq=>by rw [Num.getD_set_ne (by omega)]; exact hz' q (by omega)⟩
       · omega
       · have e:=val_set L' (i + l2.length) (cy % 4294967296) (by omega)
         rw [hz' _ (Nat.le_refl _),Nat.mod_eq_of_lt hcy] at e
         rw [Nat.mod_eq_of_lt hcy,val_take_succ l1 i (by omega),Nat.add_mul,← hv,Nat.mul_assoc,← hv',Nat.mul_comm cy]
         omega
   · refine gg ?_
     have:i = l1.length:=by omega
     subst this
     rw [val_take_all] at hv
     exact ⟨L,rfl,rfl,rfl,rfl,hE,hA,hBb,hR,hB,hL,hLim,hv⟩
 · clear hE04 hA4 hBb4 hR4 hB4 a1 b1 w4
   rintro f w4 ⟨L,hf2,hf3,hf4,hf5,hE,hA,hBb,hR,hB,hL,hLim,hv⟩
   rw [ui hf2,ui hf3,ui hf4,ui hf5]
   clear hf2 hf3 hf4 hf5
   have a0:=blk0 hA
   have b0:=blk0 hBb
   refine gg ?_
   refine R1_call2 (make_ok (g1 != g2) _ _ _ L w4 (mag_of_blk hB hLim) hL (Nat.le_refl _) (by omega)) ?_
   rintro _ w5 ⟨hE5,x,y,rfl,hcv⟩
   refine gg ?_
   refine R1_store2 agg_Int (.inl rfl) rfl rfl hcv.one0 hcv.one1 (hR.ext hE5) (by decide) ?_
   intro w6 hB6 hC6 hs6
   refine gg ?_
   refine retC rfl agg_Int rfl hB6 ⟨hC6.ext_of (hE.trans hE5) (fun b hb=>by omega),x,y,rfl,?_⟩
   rw [← sg_mul,← hv]
   exact hcv.keep (hR.ext hE5) noInt2 hC6
def cmpI (a b:Int):Int:=if a < b then -1 else if b < a then 1 else 0
set_option maxHeartbeats 8000000 in
theorem rcmpI_ok (x1 y1 x2 y2:Value) (z1 z2:Int) (N:Nat) (w:World) (h1:IV w N x1 y1 z1) (h2:IV w N x2 y2 z2) (hN:N < 137438953472) :
 Meets Tryz.prog 43 #[.agg #[x1,y1],.agg #[x2,y2]] w fun v w'=>Ext w w'∧v = .int .i64 (cmpI z1 z2):=by
 have i1:=h1
 have i2:=h2
 obtain ⟨g1,A1,l1,c1,rfl,rfl,hc1,hd1,hM1,hl1,hz1⟩:=h1
 obtain ⟨g2,A2,l2,c2,rfl,rfl,hc2,hd2,hM2,hl2,hz2⟩:=h2
 refine fn_W (n:=26) Tryz.func43 rfl rfl (by kernel_rfl) (by simp) ?_
 refine gg ?_
 refine R1_box (v:=.agg _) (.inl rfl) rfl ?_
 intro w1 hB1 hE1 hs1
 refine gg ?_
 refine R1_box (v:=.agg _) (.inl rfl) rfl ?_
 intro w2 hB2 hE2 hs2
 have hE02:=hE1.trans hE2
 refine gg ?_
 refine W_seqD [(0,0),(2,0),(1,1),(3,1),(4,3),(5,3)] mixed (by kernel_rfl) (fun w3 hE3 _=>?_)
 obtain ⟨f0,f1⟩:=blkP (hB1.ext (hE2.trans hE3))
 obtain ⟨f2,f3⟩:=blkP (hB2.ext hE3)
 have hE03:=hE02.trans hE3
 refine gg ?_
 refine R1_call1 (rsign_ok _ _ _ N w3 (i1.ext hE03) (by omega)) ?_
 rintro _ w4 ⟨hE4,rfl⟩
 refine ⟨hE4,?_⟩
 refine gg ?_
 refine R1_call1 (rsign_ok _ _ _ N w4 (i2.ext (hE03.trans hE4)) (by omega)) ?_
 rintro _ w5 ⟨hE5,rfl⟩
 refine ⟨hE5,?_⟩
 have hE05:=hE03.trans (hE4.trans hE5)
 have hE25:=hE3.trans (hE4.trans hE5)
 have s1:z1.sign = -1∧z1 < 0 ∨ z1.sign = 0∧z1 = 0 ∨ z1.sign = 1∧0 < z1:=by
  rcases Int.lt_trichotomy z1 0 with h | h | h
  · exact .inl ⟨Int.sign_eq_neg_one_of_neg h,h⟩
  · exact .inr (.inl ⟨by rw [h]; rfl,h⟩)
  · exact .inr (.inr ⟨Int.sign_eq_one_of_pos h,h⟩)
 have s2:z2.sign = -1∧z2 < 0 ∨ z2.sign = 0∧z2 = 0 ∨ z2.sign = 1∧0 < z2:=by
  rcases Int.lt_trichotomy z2 0 with h | h | h
  · exact .inl ⟨Int.sign_eq_neg_one_of_neg h,h⟩
  · exact .inr (.inl ⟨by rw [h]; rfl,h⟩)
  · exact .inr (.inr ⟨Int.sign_eq_one_of_pos h,h⟩)
 refine gg ?_
 by_cases hs:z1.sign = z2.sign
 · refine W_seq ?_
   refine gg ?_
   refine W_seqD [(0,3),(1,3),(2,0),(4,3),(5,0),(3,1),(6,1),(7,1),(8,3),(9,3)] mixed (by kernel_rfl) (fun w6 hE6 _=>?_)
   have f1:=blk1 (hB1.ext (hE2.trans (hE25.trans hE6)))
   have f3:=blk1 (hB2.ext (hE25.trans hE6))
   have hE06:=hE05.trans hE6
   refine gg ?_
   refine R1_call1 (rtrim_ok _ _ _ _ w6 (hM1.ext hE06) rfl hc1 (by omega)) ?_
   rintro _ w7 ⟨hE7,hV7⟩
   refine ⟨hE7,?_⟩
   refine gg ?_
   refine R1_call1 (rtrim_ok _ _ _ _ w7 (hM2.ext (hE06.trans hE7)) rfl hc2 (by omega)) ?_
   rintro _ w8 ⟨hE8,hV8⟩
   refine ⟨hE8,?_⟩
   obtain ⟨T1,t1,d1,rfl,_,_,hT1,ht1,hv1⟩:=hV7.ext hE8
   obtain ⟨T2,t2,d2,rfl,_,_,hT2,ht2,hv2⟩:=hV8
   have hlt1:t1.length≤N:=by have:=len_le hM1.lim ht1 (Nat.le_of_eq hv1); omega
   have hlt2:t2.length≤N:=by have:=len_le hM2.lim ht2 (Nat.le_of_eq hv2); omega
   refine gg ?_
   refine R1_call1 (rcmp_ok _ _ _ _ _ _ t1 t2 w8 hT1 hT2 rfl rfl (by omega) (by omega) ht1 ht2) ?_
   rintro _ w9 ⟨hE9,rfl⟩
   refine ⟨hE9,?_⟩
   have hcz:cmpZ (val t1) (val t2) = -1 ∨ cmpZ (val t1) (val t2) = 0 ∨ cmpZ (val t1) (val t2) = 1:=by
    unfold cmpZ; split
    · exact .inl rfl
    · split
      · exact .inr (.inr rfl)
      · exact .inr (.inl rfl)
   have hb:-9223372036854775808≤z1.sign * cmpZ (val t1) (val t2)∧z1.sign * cmpZ (val t1) (val t2) < 9223372036854775808:=by
    rcases s1 with ⟨e,_⟩ | ⟨e,_⟩ | ⟨e,_⟩ <;> rcases hcz with e' | e' | e' <;> rw [e,e'] <;> decide
   refine gg ?_
   refine R1_mul_z rfl rfl hb.1 hb.2 ?_
   refine gg ?_
   refine ret1 (v:=.int _ _) rfl rfl ⟨hE06.trans (hE7.trans (hE8.trans hE9)),?_⟩
   congr 1
   rw [hv1,hv2]
   have n1:z1.natAbs = val l1:=by rw [hz1,sg_abs]
   have n2:z2.natAbs = val l2:=by rw [hz2,sg_abs]
   unfold cmpI cmpZ
   rcases s1 with ⟨e,h1⟩ | ⟨e,h1⟩ | ⟨e,h1⟩ <;> rcases s2 with ⟨e',h2⟩ | ⟨e',h2⟩ | ⟨e',h2⟩ <;> rw [e,e'] at hs <;> first | (exfalso; revert hs; decide) | (rw [e]; by_cases p1:val l1 < val l2 <;> by_cases p2:val l2 < val l1 <;> simp only [p1,p2,if_true,if_false] <;> by_cases q1:z1 < z2 <;> by_cases q2:z2 < z1 <;> simp only [q1,q2,if_true,if_false] <;> omega)
 · refine W_seq ?_
   by_cases hlt:z1.sign < z2.sign
   · refine gg ?_
     refine W_seq ?_
     refine gg ?_
     refine ret1 (v:=.int _ _) rfl rfl ⟨hE05,?_⟩
     unfold cmpI
     rw [if_pos (by omega)]
   · refine gg ?_
     refine W_seq ?_
     refine gg ?_
     refine ret1 (v:=.int _ _) rfl rfl ⟨hE05,?_⟩
     unfold cmpI
     rw [if_neg (by omega),if_pos (by omega)]; rfl
end Go.Proofs.YtncbjgblcofddaaGreatDoor
namespace Go.Proofs.YtncbjgblcofddaaGreatDoor
open Go Go.Eng Go.Num Go.Proofs
set_option maxHeartbeats 4000000 in
theorem low_ok (A:Option Addr) (n c:Nat) (l:List Nat) (w:World) (h:Mag w A l) (hn:l.length = n) (hl:n < 1099511627776) :
 Meets Tryz.prog 136 #[.slice A n c] w fun v w'=>w = w'∧v = .int .u64 ((val (l.take 2):Nat):Int):=by
 subst hn
 refine fn_W (n:=26) Tryz.func136 rfl rfl (by kernel_rfl) (by simp) ?_
 refine gg ?_
 refine W_seq ?_
 refine gg ?_
 refine W_loop (fun m f w'=>∃ i,m = 2 - i∧i≤2∧i≤l.length∧f 0 = .slice A l.length c∧f 3 = .int .u64 ((val (l.take i):Nat):Int)∧f 4 = .int .i64 ((i:Nat):Int)∧w = w')
  2 ⟨0,rfl,by omega,by omega,rfl,rfl,rfl,rfl⟩ ?_
 rintro m f w1 ⟨i,rfl,hi,hil,hf0,hf3,hf4,rfl⟩
 rw [ui hf0,ui hf3,ui hf4]
 refine W_seq ?_
 by_cases hlt:i < l.length
 · by_cases h2:i < 2
   · obtain ⟨ad,rfl,hc⟩:=h.at (j:=i) (by omega)
     have hx:=hc i (by omega)
     have bx:=h.lim.getD i
     have hor:=or_step i (val (l.take i)) (l.getD i 0) (by omega) (val_take_lt h.lim i) bx
     refine gg ?_
     refine R1_shl_u64 rfl rfl (by omega) ?_
     refine gg ?_
     refine R1_or_u64 rfl rfl hor.2.2 (Nat.mod_lt _ (by decide)) ?_
     refine gg ?_
     refine ⟨_,?_,i + 1,rfl,by omega,by omega,rfl,?_,rfl,rfl⟩
     · omega
     · rw [val_take_succ l i (by omega),← hor.1]; rfl
   · refine gg ?_
     refine ret1 (v:=.int _ _) rfl rfl ⟨rfl,?_⟩
     rw [show i = 2 by omega]
 · refine gg ?_
   refine ret1 (v:=.int _ _) rfl rfl ⟨rfl,?_⟩
   rw [List.take_of_length_le (by omega),List.take_of_length_le (by omega)]
theorem or_bit (y b:Nat) (hb:b≤1):(y * 2 ^ 1) % 4294967296 ||| b = (y * 2) % 4294967296 + b:=by
 have e:(y * 2 ^ 1) % 4294967296 = 2 ^ 1 * (y % 2147483648):=by omega
 rw [e,← Nat.two_pow_add_eq_or_of_lt (i:=1) (by omega)]
set_option maxHeartbeats 8000000 in
theorem double_ok (A:Option Addr) (n c b:Nat) (l:List Nat) (w:World) (h:Mag w A l) (hn:l.length = n) (hl:n < 1099511627776) (hb:b≤1) :
 Meets Tryz.prog 197 #[.slice A n c,.int .u32 ((b:Nat):Int)] w fun v w'=>Ext w w'∧LimV w' v (n + 1) (2 * val l + b):=by
 subst hn
 refine fn_W (n:=28) Tryz.func197 rfl rfl (by kernel_rfl) (by simp) ?_
 refine gg ?_
 refine W_seq ?_
 refine gg ?_
 refine W_loop (fun m f w'=>∃ i v r c1,m = l.length - i∧i≤l.length∧f 1 = .int .u32 ((c1:Nat):Int)∧f 5 = v∧f 8 = .slice A l.length c∧f 9 = .int .i64 ((l.length:Nat):Int)∧f 10 = .int .i64 ((i:Nat):Int)∧Ext w w'∧OwL w' w.heap.size v r∧r.length = i∧c1≤1 ∧
  val r + c1 * B ^ i = 2 * val (l.take i) + b) l.length ⟨0,_,[],b,rfl,by omega,rfl,rfl,rfl,rfl,rfl,Ext.refl _,OwL.nil _ _,rfl,hb,by simp [val]⟩ ?_
 rintro m f w1 ⟨i,v,r,c1,rfl,hi,hf1,hf5,hf8,hf9,hf10,hE,hO,hr,hc1,hv⟩
 rw [ui hf1,ui hf5,ui hf8,ui hf9,ui hf10]
 clear hf1 hf5 hf8 hf9 hf10
 by_cases hlt:i < l.length
 · obtain ⟨ad,rfl,hc⟩:=(h.ext hE).at (j:=i) (by omega)
   have hx:=hc i (by omega)
   have bx:=h.lim.getD i
   have hor:=or_bit (l.getD i 0) c1 hc1
   refine gg ?_
   refine R1_shl_u32_c rfl (by decide) ?_
   refine gg ?_
   refine R1_or_u32 rfl rfl (Nat.mod_lt _ (by decide)) (by omega) ?_
   refine gg ?_
   refine R1_build1 sl_u32 rfl (.inl rfl) rfl rfl ?_
   intro w2 hB2 hE2 hs2
   refine gg ?_
   refine R1_push rfl rfl (hO.ext hE2) rfl hB2 (by rw [show (OfNat.ofNat 1:Nat) = 1 from rfl,hor]; omega) (by omega) (by have:=hE.size; omega) ?_
   intro v' w3 hO3 hC3
   refine gg ?_
   refine R1_shr_u32_c rfl (by decide) ?_
   refine gg ?_
   refine ⟨_,?_,i + 1,v',_,_,rfl,by omega,rfl,rfl,rfl,rfl,rfl,hC3.ext_of (hE.trans hE2) (fun b hb=>hO.blk hb),hO3,by simp [hr],?_,?_⟩
   · omega
   · have:(2:Nat) ^ (OfNat.ofNat 31) = 2147483648:=rfl
     rw [this]; omega
   · have e1:(2:Nat) ^ (OfNat.ofNat 31) = 2147483648:=rfl
     rw [e1,show (OfNat.ofNat 1:Nat) = 1 from rfl,hor,val_snoc,hr,val_take_succ l i hlt,Nat.pow_succ]
     have e:=add_step (B ^ i) (val r) c1 _ (l.getD i 0) (l.getD i 0) hv
     have e2:(c1 + (l.getD i 0 + l.getD i 0)) % B = l.getD i 0 * 2 % 4294967296 + c1:=by show _ % 4294967296 = _; omega
     have e3:(c1 + (l.getD i 0 + l.getD i 0)) / B = l.getD i 0 / 2147483648:=by show _ / 4294967296 = _; omega
     rw [e2,e3] at e
     rw [e]
     omega
 · refine gg ?_
   have:i = l.length:=by omega
   subst this
   refine R1_build1 sl_u32 rfl (.inl rfl) rfl rfl ?_
   intro w2 hB2 hE2 hs2
   refine gg ?_
   refine R1_push rfl rfl (hO.ext hE2) rfl hB2 (by omega) (by omega) (by have:=hE.size; omega) ?_
   intro v' w3 hO3 hC3
   refine gg ?_
   refine ret1 (v:=v') rfl rfl ⟨hC3.ext_of (hE.trans hE2) (fun b hb=>hO.blk hb),?_⟩
   have:=hO3.limV (N:=l.length + 1) (by simp; omega)
   rw [val_snoc,hr,Nat.mul_comm,hv,val_take_all] at this
   exact this
theorem getD_val {l:List Nat} (hl:Lim l) {j:Nat} (hj:j < l.length):l.getD j 0 = val l / B ^ j % B:=by
 rw [val_split l j (by omega),drop_cons l j hj]
 have h1:=val_take_lt hl j
 have hp:0 < B ^ j:=Nat.pow_pos (by decide)
 rw [Nat.add_mul_div_left _ _ hp,Nat.div_eq_of_lt h1,Nat.zero_add]
 simp only [val]
 rw [Nat.add_mul_mod_self_left]
 exact (Nat.mod_eq_of_lt (hl.getD j)).symm
theorem B_pow (j:Nat):B ^ j = 2 ^ (32 * j):=by rw [Nat.pow_mul]; rfl
theorem bit_of {l:List Nat} (hl:Lim l) {i:Nat} (hi:i / 32 < l.length):l.getD (i / 32) 0 / 2 ^ (i % 32) % 2 = val l / 2 ^ i % 2:=by
 rw [getD_val hl hi]
 have e:B = 2 ^ (i % 32) * 2 ^ (32 - i % 32):=by rw [← Nat.pow_add,show i % 32 + (32 - i % 32) = 32 by omega]; rfl
 have e2:2 ^ (32 - i % 32) = 2 * 2 ^ (31 - i % 32):=by rw [← Nat.pow_succ',show (31 - i % 32).succ = 32 - i % 32 by omega]
 have e3:val l / B ^ (i / 32) % B / 2 ^ (i % 32) = val l / B ^ (i / 32) / 2 ^ (i % 32) % 2 ^ (32 - i % 32):=by
  conv=>lhs; rw [show (val l / B ^ (i / 32) % B) = val l / B ^ (i / 32) % (2 ^ (i % 32) * 2 ^ (32 - i % 32)) by rw [← e]]
  rw [Nat.mod_mul_right_div_self]
 rw [e3,e2,Nat.mod_mul_right_mod,Nat.div_div_eq_div_mul,B_pow,← Nat.pow_add,show 32 * (i / 32) + i % 32 = i by omega]
theorem val_set' (L:List Nat) (j x d:Nat) (hj:j < L.length) (hx:x = L.getD j 0 + d):val (L.set j x) = val L + B ^ j * d:=by
 have e:=val_set L j x hj
 rw [hx,Nat.mul_add] at e
 rw [hx]; omega
theorem or_free {L:List Nat} (hl:Lim L) {i q:Nat} (hi:i / 32 < L.length) (hv:val L = q * 2 ^ (i + 1)) :
 L.getD (i / 32) 0 ||| (1 * 2 ^ (i % 32)) % 4294967296 = L.getD (i / 32) 0 + 2 ^ (i % 32)∧L.getD (i / 32) 0 + 2 ^ (i % 32) < 4294967296:=by
 have hb:=hl.getD (i / 32)
 have e:val L / B ^ (i / 32) = q * 2 ^ (i % 32 + 1):=by
  rw [hv,B_pow,show i + 1 = 32 * (i / 32) + (i % 32 + 1) by omega,Nat.pow_add,← Nat.mul_assoc,Nat.mul_comm q,Nat.mul_assoc,Nat.mul_div_cancel_left _ (Nat.pow_pos (by decide))]
 have hd:L.getD (i / 32) 0 = 2 ^ (i % 32 + 1) * (q % 2 ^ (31 - i % 32)):=by
  rw [getD_val hl hi,e]
  have eB:B = 2 ^ (i % 32 + 1) * 2 ^ (31 - i % 32):=by rw [← Nat.pow_add,show i % 32 + 1 + (31 - i % 32) = 32 by omega]; rfl
  rw [eB,Nat.mul_comm q,Nat.mul_mod_mul_left]
 have hlt:2 ^ (i % 32) < 2 ^ (i % 32 + 1):=Nat.pow_lt_pow_right (by decide) (by omega)
 have h1:(1 * 2 ^ (i % 32)) % 4294967296 = 2 ^ (i % 32):=by
  rw [Nat.one_mul]
  exact Nat.mod_eq_of_lt (Nat.lt_of_lt_of_le (Nat.pow_lt_pow_right (a:=2) (n:=32) (by decide) (Nat.mod_lt _ (by decide))) (by decide))
 have hq:q % 2 ^ (31 - i % 32) + 1≤2 ^ (31 - i % 32):=Nat.mod_lt _ (Nat.pow_pos (by decide))
 have h32:2 ^ (i % 32 + 1) * 2 ^ (31 - i % 32) = 4294967296:=by rw [← Nat.pow_add,show i % 32 + 1 + (31 - i % 32) = 32 by omega]
 have hmul:=Nat.mul_le_mul_left (2 ^ (i % 32 + 1)) hq
 rw [Nat.mul_add,Nat.mul_one,h32] at hmul
 refine ⟨?_,by omega⟩
 rw [h1]
 conv=>lhs; rw [hd]
 rw [← Nat.two_pow_add_eq_or_of_lt hlt,← hd]
theorem div_step (X V b r:Nat) (hV:0 < V) (hr:r = X % V):(2 * X + b) / V = 2 * (X / V) + (2 * r + b) / V∧(2 * X + b) % V = (2 * r + b) % V:=by
 have e:=Nat.div_add_mod X V
 have e2:2 * X + b = (2 * r + b) + V * (2 * (X / V)):=by
  have:V * (2 * (X / V)) = 2 * (V * (X / V)):=Nat.mul_left_comm _ _ _
  omega
 rw [e2,Nat.add_mul_div_left _ _ hV,Nat.add_mul_mod_self_left]
 exact ⟨by omega,rfl⟩
theorem CV.natV {w:World} {x y:Value} {m:Nat} (h:CV w x y (m:Int)):NatV w y m:=by
 obtain ⟨neg,A,l,c,rfl,rfl,h1,h2,h3,h4,h5,h6⟩:=h
 refine ⟨A,l,c,rfl,h1,h2,h3,h4,?_⟩
 have:=congrArg Int.natAbs h6
 rw [sg_abs] at this
 simpa using this.symm
theorem val_take2 {l:List Nat} (h:l.length≤2):val (l.take 2) = val l:=by rw [List.take_of_length_le h]
theorem val_lt2 {l:List Nat} (hl:Lim l) (h:l.length≤2):val l < 18446744073709551616:=by
 have a:=val_lt l hl
 have b:B ^ l.length≤B ^ 2:=Nat.pow_le_pow_right (by decide) h
 have c:B ^ 2 = 18446744073709551616:=by decide
 omega
set_option maxHeartbeats 16000000 in
theorem divide_ok (A1 A2:Option Addr) (n1 n2 c1 c2:Nat) (l1 l2:List Nat) (w:World) (h1:Mag w A1 l1) (h2:Mag w A2 l2) (hn1:l1.length = n1) (hn2:l2.length = n2) (hl1:n1 < 137438953472) (hl2:n2 < 137438953472) (t2:Trimd l2) (hV:0 < val l2) :
 Meets Tryz.prog 176 #[.slice A1 n1 c1,.slice A2 n2 c2] w fun v w'=>Ext w w'∧∃ q r,v = .tuple #[q,r]∧NatV w' q (val l1 / val l2)∧NatV w' r (val l1 % val l2):=by
 subst hn1 hn2
 refine fn_W (n:=75) Tryz.func176 rfl rfl (by kernel_rfl) (by simp) ?_
 refine gg ?_
 by_cases hsm:l1.length≤2∧l2.length≤2
 · obtain ⟨s1,s2⟩:=hsm
   have v1:=val_lt2 h1.lim s1
   have v2:=val_lt2 h2.lim s2
   refine W_seq ?_
   refine gg ?_
   refine R1_call2 (low_ok _ _ _ l1 w h1 rfl (by omega)) ?_
   rintro _ _ ⟨rfl,rfl⟩
   rw [val_take2 s1]
   refine gg ?_
   refine R1_call2 (low_ok _ _ _ l2 w h2 rfl (by omega)) ?_
   rintro _ _ ⟨rfl,rfl⟩
   rw [val_take2 s2]
   refine gg ?_
   refine W_seqD [(0,3),(1,3),(2,3),(5,3),(6,3),(7,3),(3,1),(4,3),(8,1),(9,3),(10,3),(11,3)] mixed (by kernel_rfl) (fun w1 hE1 _=>?_)
   refine gg ?_
   refine R1_quo_u64 rfl rfl v1 hV ?_
   refine gg ?_
   refine R1_rem_u64 rfl rfl hV ?_
   refine gg ?_
   refine R1_call1 (rword_ok false _ w1 (Nat.lt_of_le_of_lt (Nat.div_le_self _ _) v1)) ?_
   rintro _ w2 ⟨hE2,x,y,rfl,hcv⟩
   refine ⟨hE2,?_⟩
   refine gg ?_
   refine R1_magV rfl ?_
   refine gg ?_
   refine R1_call1 (rword_ok false _ w2 (Nat.lt_of_le_of_lt (Nat.mod_le _ _) v1)) ?_
   rintro _ w3 ⟨hE3,x',y',rfl,hcv'⟩
   refine ⟨hE3,?_⟩
   refine gg ?_
   refine R1_magV rfl ?_
   refine gg ?_
   rw [sg_false] at hcv hcv'
   exact ret2 (v:=y) (v':=y') rfl rfl rfl ⟨hE1.trans (hE2.trans hE3),y,y',rfl,(hcv.natV).ext hE3,hcv'.natV⟩
 · refine W_seqM (fun f w'=>w = w'∧f 0 = .slice A1 l1.length c1∧f 1 = .slice A2 l2.length c2∧f 5 = .slice none 0 0) ?_ ?_
   · refine W_seq ?_
     by_cases s1:l1.length≤2
     · have s2:¬ l2.length≤2:=fun h=>hsm ⟨s1,h⟩
       refine gg ?_
       exact ⟨rfl,rfl,rfl,rfl⟩
     · refine gg ?_
       exact ⟨rfl,rfl,rfl,rfl⟩
   rintro f w' ⟨rfl,hf0,hf1,hf5⟩
   rw [ui hf0,ui hf1,ui hf5]
   clear hf0 hf1 hf5 hsm
   refine gg ?_
   refine R1_make sl_u32 (.inl rfl) rfl rfl (Nat.le_refl _) (by omega) (by omega) ?_
   intro w1 hB hE hsz
   rw [cells_made] at hB
   obtain ⟨gQ,hgQ⟩ : ∃ g,g = w.heap.size:=⟨_,rfl⟩
   rw [← hgQ] at hB ⊢
   have hx0:val l1 / 2 ^ (32 * l1.length) = 0:=Nat.div_eq_of_lt (by rw [← B_pow]; exact val_lt l1 h1.lim)
   refine gg ?_
   refine W_seq ?_
   refine gg ?_
   refine W_loop (fun m f w'=>∃ s R L,m = s∧s≤32 * l1.length∧f 0 = .slice A1 l1.length c1∧f 1 = .slice A2 l2.length c2∧f 4 = .slice (some ⟨gQ,0,none⟩) l1.length l1.length∧f 5 = R∧f 8 = .int .i64 ((s:Int) - 1) ∧
    Ext w w'∧Blk w' gQ 107 (cells L)∧L.length = l1.length∧Lim L∧NatV w' R (val l1 / 2 ^ s % val l2)∧val L = val l1 / 2 ^ s / val l2 * 2 ^ s)
    (32 * l1.length) ⟨32 * l1.length,_,_,rfl,Nat.le_refl _,rfl,rfl,rfl,rfl,?_,hE,hB,by simp,lim_replicate _,by rw [hx0,Nat.zero_mod]; exact natV_nil w1,by rw [hx0,Nat.zero_div,Nat.zero_mul,val_zeros]⟩ ?_
   · rfl
   clear hB hE hsz hx0 w1
   rintro m f w1 ⟨s,R,L,rfl,hs,hf0,hf1,hf4,hf5,hf8,hE,hB,hL,hLim,hR,hQ⟩
   rcases m with _ | i
   · rw [ui hf0,ui hf1,ui hf4,ui hf5,ui hf8]
     clear hf0 hf1 hf4 hf5 hf8
     refine W_seq ?_
     refine gg ?_
     refine R1_call2 (rtrim_ok _ _ _ L w1 (mag_of_blk hB hLim) hL (Nat.le_refl _) (by omega)) ?_
     rintro q w2 ⟨hE2,hq⟩
     refine gg ?_
     rw [Nat.pow_zero,Nat.div_one] at hR hQ
     rw [hQ,Nat.mul_one] at hq
     exact ret2 (v:=q) (v':=R) rfl rfl rfl ⟨hE.trans hE2,q,R,rfl,hq,hR.ext hE2⟩
   · have hf8':f 8 = .int .i64 ((i:Nat):Int):=by rw [hf8]; congr 1; omega
     rw [ui hf0,ui hf1,ui hf4,ui hf5,ui hf8']
     clear hf0 hf1 hf4 hf5 hf8 hf8'
     have hij:i / 32 < l1.length:=by omega
     obtain ⟨ad,rfl,hc⟩:=(h1.ext hE).at (j:=i / 32) hij
     have hx:=hc (i / 32) hij
     have bx:=h1.lim.getD (i / 32)
     have hbit:=bit_of h1.lim hij
     have hX:val l1 / 2 ^ i = 2 * (val l1 / 2 ^ (i + 1)) + val l1 / 2 ^ i % 2:=by
      rw [Nat.pow_succ,← Nat.div_div_eq_div_mul]; omega
     have hlim:=Nat.div_le_self (l1.getD (i / 32) 0) (2 ^ (i % 32))
     refine W_seq ?_
     refine gg ?_
     refine R1_quo_i64_c rfl (by omega) (by decide) ?_
     refine gg ?_
     refine R1_rem_i64_c rfl (by decide) ?_
     refine gg ?_
     refine R1_shr_u32 rfl rfl (Nat.mod_lt _ (by decide)) ?_
     refine gg ?_
     refine R1_and_u32_c rfl (by show l1.getD (i / 32) 0 / 2 ^ (i % 32) < _; omega) (by decide) ?_
     have eb:(l1.getD (i / (OfNat.ofNat 32)) 0 / 2 ^ (i % (OfNat.ofNat 32)) &&& (OfNat.ofNat 1):Nat) = val l1 / 2 ^ i % 2:=by
      rw [← hbit]; exact Nat.and_one_is_mod _
     rw [eb]
     obtain ⟨TR,tr,dr,rfl,hdr1,hdr2,hTR,htr,hvr⟩:=hR
     have hlr:tr.length≤l2.length:=len_le h2.lim htr (by rw [hvr]; exact Nat.le_of_lt (Nat.mod_lt _ hV))
     refine gg ?_
     refine R1_call2 (double_ok _ _ _ _ tr w1 hTR rfl (by omega) (by omega)) ?_
     rintro _ w2 ⟨hE2,A,l,c,rfl,hlc,hcm,hM,hlN,hv⟩
     refine gg ?_
     refine R1_call2 (rtrim_ok _ _ _ l w2 hM rfl hlc (by omega)) ?_
     rintro _ w3 ⟨hE3,hV3⟩
     obtain ⟨T3,t3,d3,rfl,hd31,hd32,hT3,ht3,hv3⟩:=hV3
     have hl3:t3.length≤l2.length + 1:=by have:=len_le hM.lim ht3 (Nat.le_of_eq hv3); omega
     rw [hv,hvr] at hv3
     have hds:=div_step (val l1 / 2 ^ (i + 1)) (val l2) (val l1 / 2 ^ i % 2) (val l1 / 2 ^ (i + 1) % val l2) hV rfl
     rw [← hX] at hds
     have hE13:=hE2.trans hE3
     have hlt2:2 * (val l1 / 2 ^ (i + 1) % val l2) + val l1 / 2 ^ i % 2 < 2 * val l2:=by
      have:=Nat.mod_lt (val l1 / 2 ^ (i + 1)) hV
      have:=Nat.mod_lt (val l1 / 2 ^ i) (show 0 < 2 by decide)
      omega
     refine gg ?_
     refine R1_call2 (rcmp_ok _ _ _ _ _ _ t3 l2 w3 hT3 (h2.ext (hE.trans hE13)) rfl rfl (by omega) (by omega) ht3 t2) ?_
     rintro _ w4 ⟨hE4,rfl⟩
     have hE14:=hE13.trans hE4
     by_cases hge:val l2≤val t3
     · have hcz:(0:Int)≤cmpZ (val t3) (val l2):=by unfold cmpZ; rw [if_neg (by omega)]; split <;> decide
       refine gg ?_
       refine R1_call2 (rdifference_ok _ _ _ _ _ _ t3 l2 w4 (hT3.ext hE4) (h2.ext (hE.trans hE14)) rfl rfl (by omega) (len_le hT3.lim t2 hge) hge) ?_
       rintro _ w5 ⟨hE5,A',l',c',rfl,hlc',hcm',hM',hlN',hv'⟩
       refine gg ?_
       refine R1_call2 (rtrimF_ok _ _ _ l' w5 hM' rfl hlc' (by omega)) ?_
       rintro R' w6 ⟨hE6,hV6,hfresh⟩
       have hE16:=hE14.trans (hE5.trans hE6)
       refine gg ?_
       refine W_regD [(0,3),(1,3),(2,3),(3,3),(4,0),(5,3),(6,3),(7,3),(8,3),(9,3),(10,2)] mixed (by kernel_rfl) (fun w7 hE7 _=>?_)
       have hB7:=hB.ext (hE16.trans hE7)
       have hq1:=cells_at hB7 (j:=i / 32) (by omega)
       have hor:=or_free hLim (i:=i) (q:=val l1 / 2 ^ (i + 1) / val l2) (by omega) hQ
       have bq:=hLim.getD (i / 32)
       have hq:w7.cell? ⟨gQ,0 + i / (OfNat.ofNat 32) * 1,none⟩ = some (.int .u32 ((L.getD (i / 32) 0:Nat):Int)):=hq1
       refine gg ?_
       refine R1_quo_i64_c rfl (by omega) (by decide) ?_
       have hlt32:i / (OfNat.ofNat 32) < l1.length:=hij
       refine gg ?_
       refine R1_rem_i64_c rfl (by decide) ?_
       refine gg ?_
       refine R1_shl_u32_l rfl (Nat.mod_lt _ (by decide)) ?_
       refine gg ?_
       refine R1_or_u32 rfl rfl bq (Nat.mod_lt _ (by decide)) ?_
       have eo:(L.getD (i / 32) 0 ||| (OfNat.ofNat 1 * 2 ^ (i % (OfNat.ofNat 32))) % 4294967296:Nat) = L.getD (i / 32) 0 + 2 ^ (i % 32):=hor.1
       rw [eo]
       refine gg ?_
       refine R1_storeI (one_of rfl) (.inl rfl) rfl rfl hB7 (by rw [cells_size]; show 0 + i / 32 * 1 < _; omega) ?_
       intro w8 hB8 hC8 hs8
       have hB8:Blk w8 gQ 107 ((cells L).setIfInBounds (0 + i / 32 * 1) (.int .u32 ((L.getD (i / 32) 0 + 2 ^ (i % 32):Nat):Int))):=hB8
       rw [cells_set] at hB8
       have hE8:Ext w w8:=hC8.ext_of (hE.trans (hE16.trans hE7)) (fun b hb=>by omega)
       refine gg ?_
       have hdv:(2 * (val l1 / 2 ^ (i + 1) % val l2) + val l1 / 2 ^ i % 2) / val l2 = 1:=by
        refine Nat.div_eq_of_lt_le (by omega) (by omega)
       refine ⟨i,by omega,i,R',_,rfl,by omega,rfl,rfl,rfl,rfl,rfl,hE8,hB8,by simpa using hL,hLim.set hor.2,?_,?_⟩
       · have e:val l1 / 2 ^ i % val l2 = val l':=by
          rw [hv',hds.2,← hv3,Nat.mod_eq_sub_mod hge]
          exact Nat.mod_eq_of_lt (by omega)
         rw [e]
         have h6:=hV6.ext hE7
         obtain ⟨A6,l6,c6,e6,p1,p2,p3,p4,p5⟩:=h6
         refine ⟨A6,l6,c6,e6,p1,p2,p3.ch hC8 (fun ad had hb=>?_),p4,p5⟩
         subst had
         have:=hfresh ad.block (by rw [e6]; rfl)
         have:=hB.lt
         have:=(hE14.trans hE5).size
         omega
       · rw [val_set' L (i / 32) _ (2 ^ (i % 32)) (by omega) rfl,hQ,hds.1,hdv]
         generalize val l1 / 2 ^ (i + 1) / val l2 = q
         rw [Nat.add_mul,Nat.one_mul,B_pow,← Nat.pow_add,show 32 * (i / 32) + i % 32 = i by omega,Nat.pow_succ,Nat.mul_comm (2 ^ i) 2,← Nat.mul_assoc,Nat.mul_comm q 2]
     · have hcz:¬ (0:Int)≤cmpZ (val t3) (val l2):=by unfold cmpZ; rw [if_pos (by omega)]; decide
       refine gg ?_
       have hdv:(2 * (val l1 / 2 ^ (i + 1) % val l2) + val l1 / 2 ^ i % 2) / val l2 = 0:=Nat.div_eq_of_lt (by omega)
       refine ⟨i,by omega,i,_,L,rfl,by omega,rfl,rfl,rfl,rfl,rfl,hE.trans hE14,hB.ext hE14,hL,hLim,?_,?_⟩
       · have e:val l1 / 2 ^ i % val l2 = val t3:=by rw [hds.2,← hv3]; exact Nat.mod_eq_of_lt (by omega)
         rw [e]
         exact ⟨T3,t3,d3,rfl,hd31,hd32,hT3.ext hE4,ht3,rfl⟩
       · rw [hQ,hds.1,hdv]
         generalize val l1 / 2 ^ (i + 1) / val l2 = q
         rw [Nat.add_zero (2 * q),Nat.pow_succ,Nat.mul_comm (2 ^ i) 2,← Nat.mul_assoc,Nat.mul_comm q 2]
end Go.Proofs.YtncbjgblcofddaaGreatDoor
namespace Go.Proofs.YtncbjgblcofddaaGreatDoor
open Go Go.Eng Go.Num Go.Proofs
section
variable {P:Program} {n:Nat} {S:World→World→Prop} {k:Nat} {K:Fr→World→Prop} {f:Fr} {w:World}
 {d ty t t2:Nat} {x y:Operand} {pos:String} {aft:Array Edge} {gd:Option (Nat × Bool)}
theorem R1_callS {g:FuncId} {l:List Operand} {ats:Array TypeId} {post:Value→World→Prop} (hc:Meets P g (l.map (ev n f)).toArray w post)
 (h:∀ v w',post v w'→S w w'∧K (upd f d v) w'):R1 P n S 1 ⟨some d,.call { callee:=.value (.func g),args:=l.toArray,argTypes:=ats },ty,pos,aft,gd⟩ K f w :=
 R1_call (.inr rfl) (by simp) hc fun v w' hp=>⟨fun _=>(h v w' hp).1,(h v w' hp).2⟩
theorem R1_load2M {M:Nat→Prop} {g T:Nat} {u v:Value} (h3:k ≠ 3) (ht:aggTy P t 2 = true) (hx:ev n f x = .pointer (some ⟨g,0,none⟩)) (hb:Blk w g T #[u,v]) (hn:¬ M g) (h:K (upd f d (.agg #[u,v])) w) :
 R1 P n (Ch M) k ⟨some d,.load t x,ty,pos,aft,gd⟩ K f w:=by
 refine R1_read h3 (v:=.agg #[u,v]) (fun w' hw=>?_) h
 have hb':Blk w' g T #[u,v]:=by
  rcases hw with hw | rfl
  · exact hb.ch hw hn
  · exact hb
 obtain ⟨h0,h1⟩:=blkP hb'
 simp only [execOp,hx,Sem.run_bind,run_load_two ht h0 h1,Result.andThen_ok,Sem.run_pure]
theorem Ch_trans (M:Nat→Prop):∀ a b c:World,Ch M a b→Ch M b c→Ch M a c:=fun _ _ _ h k=>h.trans k
theorem W_seqDM {Q:Exit→Fr→World→Prop} {id:Nat} {ops:Array Oper} {c:Code} (M:Nat→Prop) (ord:List (Nat × Nat)) (hm:P.follows .mixedOrders = true)
 (hlen:(ord.length == ops.size && Region.noSelect ops && ordOk ops (hot ord) ord (Array.replicate ops.size false)) = true)
 (h:∀ w',Ext w w'→w'.heap = w.heap→Ro P n ops (Ch M) (W P n c Q) ord f w'):W P n (.seq (.region id ops true) c) Q f w :=
 W_seq (W_draw (Ch M) (Ch_trans M) ord hm hlen (by rw [thenF_fun]; exact h _ (ch_drew w) rfl))
end
def RDZ (w:World) (z1 z2:Int) (v:Value) (w':World):Prop :=
 if z2 = 0 then Ext w w'∧v = .tuple #[.agg #[.bool false,.slice none 0 0],.agg #[.bool false,.slice none 0 0],.bool false] else RD w z1 z2 v w'
theorem rdz_of {w w':World} {z1 z2:Int} {v:Value} (h:¬ z2 = 0) (h':RD w z1 z2 v w'):RDZ w z1 z2 v w':=by unfold RDZ; rw [if_neg h]; exact h'
theorem rdm (n1 n2:Bool) (a b:Nat) (hb:0 < b) :
 (¬ sg n1 (a % b) < 0→sg n1 a / sg n2 b = sg (n1 != n2) (a / b)∧sg n1 a % sg n2 b = sg n1 (a % b)) ∧
 (sg n1 (a % b) < 0→sg n1 a % sg n2 b = sg n1 (a % b) + sg false b∧(sg n2 b < 0→sg n1 a / sg n2 b = sg (n1 != n2) (a / b) + 1)∧(¬ sg n2 b < 0→sg n1 a / sg n2 b = sg (n1 != n2) (a / b) - 1)):=by
 have hdm:=Nat.div_add_mod a b
 have hlt:=Nat.mod_lt a hb
 cases n1
 · have h:=dm_pos n2 a b hb
   refine ⟨fun _=>?_,fun h0=>absurd h0 (by simp [sg]; omega)⟩
   simp only [sg_false,Bool.false_bne]
   exact h
 · refine ⟨fun h0=>?_,fun h0=>?_⟩
   · have hr:a % b = 0:=by simp [sg] at h0; omega
     have h:=dm_neg n2 a b (a / b) 0 hb hb (by rw [Nat.mul_comm]; omega)
     rw [sg_true,hr,sg_true,Bool.true_bne]
     exact h
   · have hr:0 < a % b:=by simp [sg] at h0; omega
     have h:=dm_neg n2 a b (a / b + 1) (b - a % b) hb (by omega) (by rw [Nat.add_mul,Nat.one_mul,Nat.mul_comm]; omega)
     rw [sg_true,Bool.true_bne,h.1,h.2]
     refine ⟨?_,fun h2=>?_,fun h2=>?_⟩
     · rw [sg_true,sg_false]; omega
     · cases n2
       · simp [sg] at h2; omega
       · simp [sg]
     · cases n2
       · simp [sg]; omega
       · simp [sg] at h2; omega
set_option maxHeartbeats 16000000 in
theorem rdivMod_ok (x1 y1 x2 y2:Value) (z1 z2:Int) (N:Nat) (w:World) (h1:IV w N x1 y1 z1) (h2:IV w N x2 y2 z2) (hN:N < 68719476736) :
 Meets Tryz.prog 135 #[.agg #[x1,y1],.agg #[x2,y2]] w (RDZ w z1 z2):=by
 have i2:=h2
 obtain ⟨g1,A1,l1,c1,rfl,rfl,hc1,hd1,hM1,hl1,rfl⟩:=h1
 obtain ⟨g2,A2,l2,c2,rfl,rfl,hc2,hd2,hM2,hl2,rfl⟩:=h2
 refine fn_W (n:=61) Tryz.func135 rfl rfl (by kernel_rfl) (by simp) ?_
 refine gg ?_
 refine R1_box (v:=.agg _) (.inl rfl) rfl ?_
 intro w1 hB1 hE1 hs1
 refine gg ?_
 refine R1_box (v:=.agg _) (.inl rfl) rfl ?_
 intro w2 hB2 hE2 hs2
 refine gg ?_
 refine R1_alloc (.inl rfl) z_Int ?_
 intro w3 hB3 hE3 hs3
 refine gg ?_
 refine R1_alloc (.inl rfl) z_Int ?_
 intro w4 hB4 hE4 hs4
 obtain ⟨ga,hga⟩ : ∃ g,g = w.heap.size:=⟨_,rfl⟩
 obtain ⟨gb,hgb⟩ : ∃ g,g = w1.heap.size:=⟨_,rfl⟩
 obtain ⟨gq,hgq⟩ : ∃ g,g = w2.heap.size:=⟨_,rfl⟩
 obtain ⟨gr,hgr⟩ : ∃ g,g = w3.heap.size:=⟨_,rfl⟩
 have hQ4:Bx w4 w2.heap.size 1 true 0:=(Bx.zero true hB3).ext hE4
 have hR4:Bx w4 w3.heap.size 1 true 0:=Bx.zero true hB4
 rw [← hgr] at hR4 ⊢
 rw [← hgq] at hQ4 ⊢
 rw [← hgb] at hB2 ⊢
 rw [← hga] at hB1 ⊢
 have hA4:=hB1.ext (hE2.trans (hE3.trans hE4))
 have hBb4:=hB2.ext (hE3.trans hE4)
 have hE04:=hE1.trans (hE2.trans (hE3.trans hE4))
 have hab:ga < gb∧gb < gq∧gq < gr∧w.heap.size≤ga:=by omega
 obtain ⟨hab1,hab2,hab3,hab4⟩:=hab
 clear hB1 hB2 hB3 hB4 hE1 hE2 hE3 hE4 hs1 hs2 hs3 hs4 hgr hgq hgb hga
 refine gg ?_
 refine W_seqD [(0,3),(1,0),(3,3),(4,0),(2,1),(5,1),(6,3),(7,3)] mixed (by kernel_rfl) (fun w5 hE5 _=>?_)
 have f1:=blk1 (hA4.ext hE5)
 have f3:=blk1 (hBb4.ext hE5)
 have hE05:=hE04.trans hE5
 refine gg ?_
 refine R1_call1 (rtrim_ok _ _ _ _ w5 (hM1.ext hE05) rfl hc1 (by omega)) ?_
 rintro _ w6 ⟨hE6,hV6⟩
 refine ⟨hE6,?_⟩
 refine gg ?_
 refine R1_call1 (rtrim_ok _ _ _ _ w6 (hM2.ext (hE05.trans hE6)) rfl hc2 (by omega)) ?_
 rintro _ w7 ⟨hE7,hV7⟩
 refine ⟨hE7,?_⟩
 obtain ⟨T1,t1,d1,rfl,_,_,hT1,ht1,hv1⟩:=hV6.ext hE7
 obtain ⟨T2,t2,d2,rfl,hd21,hd22,hT2,ht2,hv2⟩:=hV7
 have hlt1:t1.length≤N:=by have:=len_le hM1.lim ht1 (Nat.le_of_eq hv1); omega
 have hlt2:t2.length≤N:=by have:=len_le hM2.lim ht2 (Nat.le_of_eq hv2); omega
 have hE47:=hE5.trans (hE6.trans hE7)
 have hE07:=hE04.trans hE47
 have hA7:=hA4.ext hE47
 have hBb7:=hBb4.ext hE47
 have hQ7:=hQ4.ext hE47
 have hR7:=hR4.ext hE47
 clear hE5 hE6 hE7 hE47 hE04 hE05 hA4 hBb4 hQ4 hR4 f1 f3 hV6
 refine gg ?_
 by_cases hz:t2.length = 0
 · have hz2:val l2 = 0:=by rw [← hv2,List.eq_nil_of_length_eq_zero hz]; rfl
   have e0:sg g2 (val l2) = 0:=by rw [hz2]; cases g2 <;> rfl
   refine W_seq ?_
   refine gg ?_
   refine R1_bld0 b0_Int ?_
   refine gg ?_
   refine R1_bld0 b0_Int ?_
   refine gg ?_
   obtain ⟨qx,qy,hQB,hQv⟩:=hQ7
   refine R1_store2 agg_Int (.inl rfl) rfl rfl rfl rfl hQB (by simp) ?_
   intro w8 hB8 hC8 hs8
   have hk8:=kp_ch hQB hQv.1.noU hC8
   obtain ⟨rx,ry,hRB,hRv⟩:=hR7.kp hk8 hC8 (by omega)
   refine gg ?_
   refine R1_store2 agg_Int (.inl rfl) rfl rfl rfl rfl hRB (by simp) ?_
   intro w9 hB9 hC9 hs9
   refine gg ?_
   refine retCCT (v:=.bool _) rfl agg_Int rfl rfl rfl (hB8.ch hC9 (by omega)) hB9 ?_
   unfold RDZ
   rw [if_pos e0]
   exact ⟨hC9.ext_of (hC8.ext_of hE07 (fun b hb=>by omega)) (fun b hb=>by omega),rfl⟩
 · have hpos:0 < val t2:=by
    rcases Nat.eq_zero_or_pos (val t2) with h | h
    · exact absurd (by rw [val_zero ht2 h]; rfl) hz
    · exact h
   have hz2:¬ sg g2 (val l2) = 0:=fun e=>by
    have:=congrArg Int.natAbs e
    rw [sg_abs,← hv2] at this
    simp at this; omega
   have key:=rdm g1 g2 (val l1) (val l2) (by omega)
   refine W_seq ?_
   refine gg ?_
   refine R1_call2 (divide_ok _ _ _ _ _ _ t1 t2 w7 hT1 hT2 rfl rfl (by omega) (by omega) ht2 hpos) ?_
   rintro _ w8 ⟨hE8,q,r,rfl,hq,hr⟩
   obtain ⟨Tq,tq,dq,rfl,hdq1,hdq2,hTq,htq,hvq⟩:=hq
   obtain ⟨Tr,tr,dr,rfl,hdr1,hdr2,hTr,htr,hvr⟩:=hr
   rw [hv1,hv2] at hvq hvr
   have hlq:tq.length≤N:=by have:=len_le hM1.lim htq (by rw [hvq]; exact Nat.div_le_self _ _); omega
   have hlr:tr.length≤N:=by have:=len_le hM1.lim htr (by rw [hvr]; exact Nat.mod_le _ _); omega
   have hA8:=hA7.ext hE8
   have hBb8:=hBb7.ext hE8
   have hE08:=hE07.trans hE8
   refine gg ?_
   refine W_seqG [(0,3),(1,0),(2,3),(3,0),(4,3),(5,3),(7,3),(8,0),(9,3)] [(6,[],[]),(11,[],[]),(12,[],[]),(10,[],[6])] [(13,2),(14,2)] mixed (by kernel_rfl) (fun w9 hE9 _=>?_)
   have f0:=blk0 (hA8.ext hE9)
   have f2:=blk0 (hBb8.ext hE9)
   refine gg ?_
   refine Rg_float [(6,[]),(10,[])] [fA 11 11 41 (.agg #[.bool false,.slice none 0 0]),fA 12 12 41 (.agg #[.bool false,.slice none 0 0])] [36,40,11,12] (by kernel_rfl) (fun a ha f' w' _ _=>by
    rcases List.mem_cons.1 ha with rfl | ha
    · exact flt_alloc z_Int rfl f' w'
    · rcases List.mem_singleton.1 ha with rfl
      exact flt_alloc z_Int rfl f' w') ?_
   refine Rc_cons (fun w10 hE10=>?_)
   refine gg ?_
   refine R1_call1 (make_ok (g1 != g2) _ _ _ tq w10 (hTq.ext (hE9.trans hE10)) rfl hdq1 (by omega)) ?_
   rintro _ w11 ⟨hE11,q1,q2,rfl,hcq⟩
   refine ⟨hE11,?_⟩
   refine gg ?_
   refine Rc_cons (fun w12 hE12=>?_)
   refine gg ?_
   refine R1_call1 (make_ok g1 _ _ _ tr w12 (hTr.ext (hE9.trans (hE10.trans (hE11.trans hE12)))) rfl hdr1 (by omega)) ?_
   rintro _ w13 ⟨hE13,r1,r2,rfl,hcr⟩
   refine ⟨hE13,?_⟩
   refine gg ?_
   refine Rc_nil (fun w14 hE14 bs hbs hdis=>?_)
   obtain ⟨hge11,hB11⟩:=hbs _ List.mem_cons_self
   obtain ⟨hge12,hB12⟩:=hbs _ (List.mem_cons_of_mem _ List.mem_cons_self)
   have hne:bs 11 ≠ bs 12:=hdis _ _ List.mem_cons_self (List.mem_cons_of_mem _ List.mem_cons_self) (show (11:Nat) ≠ 12 by decide)
   have hM11:Bx w14 (bs 11) 1 true 0:=Bx.zero true hB11
   have hM12:Bx w14 (bs 12) 1 true 0:=Bx.zero true hB12
   have hge11:w9.heap.size≤bs 11:=hge11
   have hge12:w9.heap.size≤bs 12:=hge12
   show Ro _ _ _ _ _ _ (upd (upd _ 12 (.pointer (some ⟨bs 12,0,none⟩))) 11 (.pointer (some ⟨bs 11,0,none⟩))) _
   generalize bs 11 = g11 at *
   generalize bs 12 = g12 at *
   clear hB11 hB12 hbs hdis
   rw [hvq] at hcq
   rw [hvr] at hcr
   have bq:Bd N (sg (g1 != g2) (val l1 / val l2)):=by
    unfold Bd; rw [sg_abs]
    have a:=val_lt l1 hM1.lim
    have b:B ^ l1.length≤B ^ N:=Nat.pow_le_pow_right (by decide) hl1
    have:=Nat.div_le_self (val l1) (val l2)
    omega
   have brr:Bd N (sg g1 (val l1 % val l2)):=by
    unfold Bd; rw [sg_abs]
    have a:=val_lt l1 hM1.lim
    have b:B ^ l1.length≤B ^ N:=Nat.pow_le_pow_right (by decide) hl1
    have:=Nat.mod_le (val l1) (val l2)
    omega
   refine gg ?_
   refine R1_storeBx (.inl rfl) rfl rfl hM11 ((hcq.ext (hE12.trans (hE13.trans hE14))).ev true bq) ?_
   intro w15 h11 hC15 hk15 hs15
   refine gg ?_
   refine R1_storeBx (.inl rfl) rfl rfl (hM12.kp hk15 hC15 hne.symm) (((hcr.ext hE14).kp hk15).ev true brr) ?_
   intro w16 h12 hC16 hk16 hs16
   have h11:=h11.kp hk16 hC16 hne
   have hE814:=hE9.trans (hE10.trans (hE11.trans (hE12.trans (hE13.trans hE14))))
   have hw8:=hA8.lt
   have hl8:gr < w9.heap.size:=by have:=(hR7.ext (hE8.trans hE9)).lt; omega
   have hA16:=((hA8.ext hE814).ch hC15 (by omega)).ch hC16 (by omega)
   have hBb16:=((hBb8.ext hE814).ch hC15 (by omega)).ch hC16 (by omega)
   have hQ16:=((hQ7.ext (hE8.trans hE814)).kp hk15 hC15 (by omega)).kp hk16 hC16 (by omega)
   have hR16:=((hR7.ext (hE8.trans hE814)).kp hk15 hC15 (by omega)).kp hk16 hC16 (by omega)
   have hw0:=(hE08.trans hE9).size
   have hE16:Ext w w16:=hC16.ext_of (hC15.ext_of (hE08.trans hE814) (fun b hb=>by omega)) (fun b hb=>by omega)
   have hT2':Mag w16 T2 t2:=((hT2.ext (hE8.trans hE814)).kp hk15).kp hk16
   have hg11:gr < g11:=by omega
   have hg12:gr < g12:=by omega
   clear hE814 hw8 hl8 hA8 hBb8 hQ7 hR7 hk15 hC15 hk16 hC16 hs15 hs16 hM11 hM12 hE14 hE13 hE12 hE11 hE10 hE9 hw0 hge11 hge12 hA7 hBb7 hcq hcr hTq hTr hT2 f0 f2
   obtain ⟨sx,sy,hSB,hSv⟩:=id h12
   obtain ⟨s0,s1⟩:=blkP hSB
   refine gg ?_
   refine W_seq ?_
   refine gg ?_
   refine R1_call2 (rsign_ok _ _ _ N w16 hSv.1 (by omega)) ?_
   rintro _ w17 ⟨hE17,rfl⟩
   by_cases hneg:sg g1 (val l1 % val l2) < 0
   · have hsg:(sg g1 (val l1 % val l2)).sign < 0:=by rw [Int.sign_eq_neg_one_of_neg hneg]; decide
     obtain ⟨k1,k2,k3⟩:=key.2 hneg
     refine gg ?_
     refine W_seqD [(0,0),(1,3),(2,1),(3,1),(4,2)] mixed (by kernel_rfl) (fun w18 hE18 _=>?_)
     have hE1618:=hE17.trans hE18
     obtain ⟨sx,sy,hSB,hSv⟩:=h12.ext hE1618
     obtain ⟨s0,s1⟩:=blkP hSB
     refine gg ?_
     refine R1_call1 (make_ok false _ _ _ t2 w18 (hT2'.ext hE1618) rfl hd21 (by omega)) ?_
     rintro _ w19 ⟨hE19,n1,n2,rfl,hcn⟩
     refine ⟨hE19,?_⟩
     rw [hv2] at hcn
     have bn:Bd N (sg false (val l2)):=by
      unfold Bd; rw [sg_abs]
      have a:=val_lt l2 hM2.lim
      have b:B ^ l2.length≤B ^ N:=Nat.pow_le_pow_right (by decide) hl2
      omega
     refine gg ?_
     refine R1_call1 (radd_ok _ _ _ _ _ _ N w19 (hSv.ext hE19).1 (hcn.iv bn) (by omega)) ?_
     rintro _ w20 ⟨hE20,n3,n4,rfl,hc20⟩
     refine ⟨hE20,?_⟩
     rw [← k1] at hc20
     have b20:Bd (N + 1) (sg g1 (val l1) % sg g2 (val l2)):=by rw [k1]; exact brr.add bn
     refine gg ?_
     refine R1_storeBx (.inl rfl) rfl rfl (h12.ext (hE1618.trans (hE19.trans hE20))) (hc20.ev true b20) ?_
     intro w21 h12' hC21 hk21 hs21
     have hEs:=hE1618.trans (hE19.trans hE20)
     have hBb21:=(hBb16.ext hEs).ch hC21 (by omega)
     have hQ21:=(hQ16.ext hEs).kp hk21 hC21 (by omega)
     have hR21:=(hR16.ext hEs).kp hk21 hC21 (by omega)
     have h11':=(h11.ext hEs).kp hk21 hC21 hne
     have hE21:Ext w w21:=hC21.ext_of (hE16.trans hEs) (fun b hb=>by omega)
     clear hEs hE1618 hE20 hE19 hE18 hE17 hc20 hcn hk21 hC21 hs21 hSB hSv s0 s1 h12 h11 hQ16 hR16 hBb16 hA16 hE16
     obtain ⟨b0,b1⟩:=blkP hBb21
     refine gg ?_
     refine W_seq ?_
     refine gg ?_
     refine R1_call2 (rsign_ok _ _ _ N w21 (i2.ext hE21) (by omega)) ?_
     rintro _ w22 ⟨hE22,rfl⟩
     have hQ22:=hQ21.ext hE22
     have hR22:=hR21.ext hE22
     have h1122:=h11'.ext hE22
     have h1222:=h12'.ext hE22
     have hE022:=hE21.trans hE22
     by_cases hn2:sg g2 (val l2) < 0
     · have hsg2:(sg g2 (val l2)).sign < 0:=by rw [Int.sign_eq_neg_one_of_neg hn2]; decide
       refine gg ?_
       refine W_seqDM (fun b=>b = gq) [(0,0),(3,0),(1,1),(2,1),(4,1),(5,2),(6,3)] mixed (by kernel_rfl) (fun w23 hE23 _=>?_)
       obtain ⟨ax,ay,hAB,hAv⟩:=h1122.ext hE23
       obtain ⟨bx,by',hBB,hBv⟩:=h1222.ext hE23
       refine gg ?_
       refine R1_load2M (by decide) agg_Int rfl hAB (by omega) ?_
       refine gg ?_
       refine R1_load2M (by decide) agg_Int rfl hBB (by omega) ?_
       refine gg ?_
       refine R1_callS (rsmall_ok 1 w23 (by decide) (by decide)) ?_
       rintro _ w24 ⟨hE24,o1,o2,rfl,hco⟩
       refine ⟨hE24.ch,?_⟩
       refine gg ?_
       refine R1_callS (radd_ok _ _ _ _ _ _ (N + 1) w24 (hAv.ext hE24 |>.mono (Nat.le_succ N)).1 (hco.iv (Bd.mono (N:=1) (show (1:Int).natAbs < B ^ 1 by decide) (by omega))) (by omega)) ?_
       rintro _ w25 ⟨hE25,o3,o4,rfl,hcs⟩
       refine ⟨hE25.ch,?_⟩
       refine gg ?_
       obtain ⟨qx,qy,hQB,hQv⟩:=hQ22.ext (hE23.trans (hE24.trans hE25))
       refine R1_store2 agg_Int (.inr ⟨rfl,fun _ h=>h⟩) rfl rfl hcs.one0 hcs.one1 hQB (by simp) ?_
       intro w26 hB26 hC26 hs26
       have hk26:=kp_ch hQB hQv.1.noU hC26
       obtain ⟨rx,ry,hRB,hRv⟩:=(hR22.ext (hE23.trans (hE24.trans hE25))).kp hk26 hC26 (by omega)
       refine gg ?_
       refine R1_store2 agg_Int (.inl rfl) rfl rfl hBv.1.one0 hBv.1.one1 hRB (by simp) ?_
       intro w27 hB27 hC27 hs27
       have hk27:=kp_ch hRB hRv.1.noU hC27
       refine gg ?_
       refine retCCT (v:=.bool _) rfl agg_Int rfl rfl rfl (hB26.ch hC27 (by omega)) hB27 (rdz_of hz2 ⟨hC27.ext_of (hC26.ext_of (hE022.trans (hE23.trans (hE24.trans hE25))) (fun b hb=>by omega)) (fun b hb=>by omega),_,_,_,_,rfl,?_,?_⟩)
       · rw [k2 hn2]; exact (hcs.kp hk26).kp hk27
       · exact (((hBv.2 rfl).ext (hE24.trans hE25)).kp hk26).kp hk27
     · have hsg2:¬ (sg g2 (val l2)).sign < 0:=by
        rcases Int.lt_trichotomy (sg g2 (val l2)) 0 with h | h | h
        · exact absurd h hn2
        · exact absurd h hz2
        · rw [Int.sign_eq_one_of_pos h]; decide
       refine gg ?_
       refine W_seqDM (fun b=>b = gq) [(0,0),(3,0),(1,1),(2,1),(4,1),(5,2),(6,3)] mixed (by kernel_rfl) (fun w23 hE23 _=>?_)
       obtain ⟨ax,ay,hAB,hAv⟩:=h1122.ext hE23
       obtain ⟨bx,by',hBB,hBv⟩:=h1222.ext hE23
       refine gg ?_
       refine R1_load2M (by decide) agg_Int rfl hAB (by omega) ?_
       refine gg ?_
       refine R1_load2M (by decide) agg_Int rfl hBB (by omega) ?_
       refine gg ?_
       refine R1_callS (rsmall_ok 1 w23 (by decide) (by decide)) ?_
       rintro _ w24 ⟨hE24,o1,o2,rfl,hco⟩
       refine ⟨hE24.ch,?_⟩
       refine gg ?_
       refine R1_callS (rsub_ok _ _ _ _ _ _ (N + 1) w24 (hAv.ext hE24 |>.mono (Nat.le_succ N)).1 (hco.iv (Bd.mono (N:=1) (show (1:Int).natAbs < B ^ 1 by decide) (by omega))) (by omega)) ?_
       rintro _ w25 ⟨hE25,o3,o4,rfl,hcs⟩
       refine ⟨hE25.ch,?_⟩
       refine gg ?_
       obtain ⟨qx,qy,hQB,hQv⟩:=hQ22.ext (hE23.trans (hE24.trans hE25))
       refine R1_store2 agg_Int (.inr ⟨rfl,fun _ h=>h⟩) rfl rfl hcs.one0 hcs.one1 hQB (by simp) ?_
       intro w26 hB26 hC26 hs26
       have hk26:=kp_ch hQB hQv.1.noU hC26
       obtain ⟨rx,ry,hRB,hRv⟩:=(hR22.ext (hE23.trans (hE24.trans hE25))).kp hk26 hC26 (by omega)
       refine gg ?_
       refine R1_store2 agg_Int (.inl rfl) rfl rfl hBv.1.one0 hBv.1.one1 hRB (by simp) ?_
       intro w27 hB27 hC27 hs27
       have hk27:=kp_ch hRB hRv.1.noU hC27
       refine gg ?_
       refine retCCT (v:=.bool _) rfl agg_Int rfl rfl rfl (hB26.ch hC27 (by omega)) hB27 (rdz_of hz2 ⟨hC27.ext_of (hC26.ext_of (hE022.trans (hE23.trans (hE24.trans hE25))) (fun b hb=>by omega)) (fun b hb=>by omega),_,_,_,_,rfl,?_,?_⟩)
       · rw [k3 hn2]; exact (hcs.kp hk26).kp hk27
       · exact (((hBv.2 rfl).ext (hE24.trans hE25)).kp hk26).kp hk27
   · have hsg:¬ (sg g1 (val l1 % val l2)).sign < 0:=by
      rcases Int.lt_trichotomy (sg g1 (val l1 % val l2)) 0 with h | h | h
      · exact absurd h hneg
      · rw [h]; decide
      · rw [Int.sign_eq_one_of_pos h]; decide
     obtain ⟨k1,k2⟩:=key.1 hneg
     refine gg ?_
     refine W_seqDM (fun b=>b = gq) [(0,0),(1,0),(2,1),(3,2),(4,3)] mixed (by kernel_rfl) (fun w23 hE23 _=>?_)
     obtain ⟨ax,ay,hAB,hAv⟩:=h11.ext (hE17.trans hE23)
     obtain ⟨bx,by',hBB,hBv⟩:=h12.ext (hE17.trans hE23)
     refine gg ?_
     refine R1_load2M (by decide) agg_Int rfl hAB (by omega) ?_
     refine gg ?_
     refine R1_load2M (by decide) agg_Int rfl hBB (by omega) ?_
     refine gg ?_
     obtain ⟨qx,qy,hQB,hQv⟩:=hQ16.ext (hE17.trans hE23)
     refine R1_store2 agg_Int (.inr ⟨rfl,fun _ h=>h⟩) rfl rfl hAv.1.one0 hAv.1.one1 hQB (by simp) ?_
     intro w26 hB26 hC26 hs26
     have hk26:=kp_ch hQB hQv.1.noU hC26
     obtain ⟨rx,ry,hRB,hRv⟩:=(hR16.ext (hE17.trans hE23)).kp hk26 hC26 (by omega)
     refine gg ?_
     refine R1_store2 agg_Int (.inl rfl) rfl rfl hBv.1.one0 hBv.1.one1 hRB (by simp) ?_
     intro w27 hB27 hC27 hs27
     have hk27:=kp_ch hRB hRv.1.noU hC27
     refine gg ?_
     refine retCCT (v:=.bool _) rfl agg_Int rfl rfl rfl (hB26.ch hC27 (by omega)) hB27 (rdz_of hz2 ⟨hC27.ext_of (hC26.ext_of (hE16.trans (hE17.trans hE23)) (fun b hb=>by omega)) (fun b hb=>by omega),_,_,_,_,rfl,?_,?_⟩)
     · rw [k1]; exact ((hAv.2 rfl).kp hk26).kp hk27
     · rw [k2]; exact ((hBv.2 rfl).kp hk26).kp hk27
set_option maxHeartbeats 8000000 in
theorem rquo_ok (x1 y1 x2 y2:Value) (z1 z2:Int) (N:Nat) (w:World) (h1:IV w N x1 y1 z1) (h2:IV w N x2 y2 z2) (hN:N < 68719476736) :
 Meets Tryz.prog 145 #[.agg #[x1,y1],.agg #[x2,y2]] w (RI w (z1 / z2)):=by
 refine fn_W (n:=16) Tryz.func145 rfl rfl (by kernel_rfl) (by simp) ?_
 refine gg ?_
 refine R1_box (v:=.agg _) (.inl rfl) rfl ?_
 intro w1 hB1 hE1 hs1
 refine gg ?_
 refine R1_box (v:=.agg _) (.inl rfl) rfl ?_
 intro w2 hB2 hE2 hs2
 refine gg ?_
 refine R1_alloc (.inl rfl) z_Int ?_
 intro w3 hB3 hE3 hs3
 have hR3:Bx w3 w2.heap.size 1 true 0:=Bx.zero true hB3
 obtain ⟨gR,hgR⟩ : ∃ g,g = w2.heap.size:=⟨_,rfl⟩
 rw [← hgR] at hR3 ⊢
 have hE13:=hE1.trans (hE2.trans hE3)
 obtain ⟨f0,f1⟩:=blkP (hB1.ext (hE2.trans hE3))
 obtain ⟨f2,f3⟩:=blkP (hB2.ext hE3)
 refine gg ?_
 refine R1_call2 (rdivMod_ok _ _ _ _ _ _ N w3 (h1.ext hE13) (h2.ext hE13) hN) ?_
 intro v w4 hv
 obtain ⟨hE4,qx,qy,rx,ry,b,rfl,hq,hr⟩ : Ext w3 w4∧∃ qx qy rx ry b,v = .tuple #[.agg #[qx,qy],.agg #[rx,ry],.bool b]∧CV w4 qx qy (z1 / z2)∧∃ zr,CV w4 rx ry zr∧Bd N zr:=by
  unfold RDZ at hv
  split at hv
  · rename_i h0
    obtain ⟨hE,rfl⟩:=hv
    exact ⟨hE,_,_,_,_,_,rfl,by rw [h0,Int.ediv_zero]; exact CV.zero _,0,CV.zero _,Bd.zero _⟩
  · rename_i h0
    obtain ⟨hE,qx,qy,rx,ry,rfl,hq,hr⟩:=hv
    refine ⟨hE,qx,qy,rx,ry,true,rfl,hq,_,hr,?_⟩
    have a:=Int.emod_nonneg z1 h0
    have b:=Int.emod_lt z1 h0
    have c:z2.natAbs < B ^ N:=IV.bd h2
    unfold Bd
    omega
 obtain ⟨zr,hr,hzr⟩:=hr
 refine gg ?_
 refine R1_alloc (.inl rfl) z_Int ?_
 intro w5 hB5 hE5 hs5
 refine gg ?_
 refine R1_alloc (.inl rfl) z_Int ?_
 intro w6 hB6 hE6 hs6
 have h5:Bx w6 w4.heap.size 1 true 0:=(Bx.zero true hB5).ext hE6
 have h6:Bx w6 w5.heap.size 1 true 0:=Bx.zero true hB6
 refine gg ?_
 refine R1_storeBx (.inl rfl) rfl rfl h5 ((hq.ext (hE5.trans hE6)).ev true (Bd.ediv (IV.bd h1))) ?_
 intro w7 h7 hC7 hk7 hs7
 refine gg ?_
 refine R1_storeBx (.inl rfl) rfl rfl (h6.kp hk7 hC7 (by omega)) (((hr.ext (hE5.trans hE6)).kp hk7).ev true hzr) ?_
 intro w8 h8 hC8 hk8 hs8
 obtain ⟨ax,ay,hAB,hAv⟩:=h7.kp hk8 hC8 (by omega)
 obtain ⟨a0,a1⟩:=blkP hAB
 have hR8:=((hR3.ext (hE4.trans (hE5.trans hE6))).kp hk7 hC7 (by have:=hR3.lt; have:=hE4.size; omega)).kp hk8 hC8 (by have:=hR3.lt; have:=hE4.size; omega)
 have hw4:=(hE13.trans hE4).size
 have hE08:Ext w w8:=hC8.ext_of (hC7.ext_of (hE13.trans (hE4.trans (hE5.trans hE6))) (fun b hb=>by omega)) (fun b hb=>by omega)
 refine gg ?_
 refine R1_storeBx (.inl rfl) rfl rfl hR8 hAv ?_
 intro w9 h9 hC9 hk9 hs9
 refine gg ?_
 obtain ⟨x,y,hB,hv⟩:=h9
 exact retC rfl agg_Int rfl hB ⟨hC9.ext_of hE08 (fun b hb=>by have:=(hE1.trans hE2).size; omega),x,y,rfl,hv.2 rfl⟩
end Go.Proofs.YtncbjgblcofddaaGreatDoor
namespace Go.Proofs.YtncbjgblcofddaaGreatDoor
open Go Go.Eng Go.Num Go.Proofs
def Outer (T:Nat) (w:World) (gO r i c:Nat) (gs:Nat→Nat):Prop :=
 ∃ h,Blk w gO T (arr r h)∧(∀ k,k < r→∃ A m cc,h k = .slice A m cc)∧∀ k,k < i→h k = .slice (some ⟨gs k,0,none⟩) c c
section
variable {T:Nat} {w w':World} {gO r i c:Nat} {gs:Nat→Nat}
theorem Outer.kp {MM:Nat→Prop} (h:Outer T w gO r i c gs) (hC:Ch MM w w') (hn:¬ MM gO):Outer T w' gO r i c gs:=by
 obtain ⟨h,hb,h1,h2⟩:=h
 exact ⟨h,hb.ch hC hn,h1,h2⟩
theorem Outer.ext (h:Outer T w gO r i c gs) (hE:Ext w w'):Outer T w' gO r i c gs:=h.kp hE id
theorem Outer.lt (h:Outer T w gO r i c gs):gO < w.heap.size:=by obtain ⟨h,hb,h1,h2⟩:=h; exact hb.lt
theorem Outer.at (h:Outer T w gO r i c gs) {k:Nat} (hk:k < i) (hr:k < r):w.cell? ⟨gO,0 + k * 1,none⟩ = some (.slice (some ⟨gs k,0,none⟩) c c):=by
 obtain ⟨h,hb,h1,h2⟩:=h
 rw [hb.cell,arr_at (by omega),Nat.zero_add,Nat.mul_one,h2 k hk]
theorem outer_made {gs:Nat→Nat} (h:Blk w gO T (madeCells (Value.slice none 0 0).cells (r * 1))):Outer T w gO r 0 c gs:=by
 rw [arr_made,Nat.mul_one] at h
 exact ⟨_,h,fun k _=>⟨none,0,0,by simp [Value.cells,Nat.mod_one]⟩,fun k hk=>absurd hk (by omega)⟩
theorem Outer.full (h:Outer T w gO r r c gs):Blk w gO T (arr r fun i=>.slice (some ⟨gs i,0,none⟩) c c):=by
 obtain ⟨h,hb,h1,h2⟩:=h
 rw [arr_congr h2] at hb
 exact hb
theorem outer_full (h:Blk w gO T (arr r fun i=>.slice (some ⟨gs i,0,none⟩) c c)):Outer T w gO r r c gs:=⟨_,h,fun _ _=>⟨_,_,_,rfl⟩,fun _ _=>rfl⟩
end
section
variable {P:Program} {n:Nat} {S:World→World→Prop} {k:Nat} {K:Fr→World→Prop} {f:Fr} {w:World}
 {d ty t t2:Nat} {x y:Operand} {pos:String} {aft:Array Edge} {gd:Option (Nat × Bool)}
theorem R1_storeRow {T gO r i j c g:Nat} {gs:Nat→Nat} (ht:oneTy P t = true) (h0:k = 2 ∨ k = 1∧∀ w',Ch (fun b=>b = gO) w w'→S w w') (hx:ev n f x = .pointer (some ⟨gO,0 + j * 1,none⟩)) (hy:ev n f y = .slice (some ⟨g,0,none⟩) c c) (hO:Outer T w gO r i c gs) (hj:j < r)
 (h:∀ w',(Outer T w' gO r i c (setN gs j g)∧(j = i→Outer T w' gO r (i + 1) c (setN gs j g)))→Ch (fun b=>b = gO) w w'→Kp w w'→w'.heap.size = w.heap.size→K f w') :
 R1 P n S k ⟨none,.store t x y,ty,pos,aft,gd⟩ K f w:=by
 obtain ⟨hh,hb,h1,h2⟩:=hO
 refine R1_storeS ht h0 hx hy hb (by rw [arr_size]; omega) ?_
 intro w' hB' hC hs
 rw [arr_set,Nat.zero_add,Nat.mul_one] at hB'
 have a:∀ k,k < r→∃ A m cc,upd hh j (.slice (some ⟨g,0,none⟩) c c) k = .slice A m cc:=fun k hk=>by
  by_cases e:k = j
  · subst e; exact ⟨_,_,_,upd_self _ _ _⟩
  · rw [upd_ne _ _ e]; exact h1 k hk
 have b:∀ k,k < i ∨ k = j→upd hh j (.slice (some ⟨g,0,none⟩) c c) k = .slice (some ⟨setN gs j g k,0,none⟩) c c:=fun k hk=>by
  by_cases e:k = j
  · subst e; rw [upd_self]; simp [setN]
  · rw [upd_ne _ _ e]; simp only [setN,if_neg e]; exact h2 k (by omega)
 exact h w' ⟨⟨_,hB',a,fun k hk=>b k (.inl hk)⟩,fun e=>⟨_,hB',a,fun k hk=>b k (by omega)⟩⟩ hC (kp_ch hb (noInt_rows h1).noU hC) hs
end
set_option maxHeartbeats 8000000 in
theorem zero_ok (r c:Nat) (w:World) (hr:r < 1073741824) (hc:c < 1073741824) :
 Meets Tryz.prog 89 #[.int .i64 ((r:Nat):Int),.int .i64 ((c:Nat):Int)] w (RM w r c fun _ _=>0):=by
 refine fn_W (n:=21) Tryz.func89 rfl rfl (by kernel_rfl) (by simp) ?_
 refine gg ?_
 refine R1_make sl_sInt (.inl rfl) rfl rfl (Nat.le_refl _) (by omega) (by omega) ?_
 intro w1 hB hE hsz
 refine gg ?_
 refine W_seq ?_
 refine gg ?_
 refine W_loop (fun m f w'=>∃ i gs,m = r - i∧i≤r∧f 1 = .int .i64 ((c:Nat):Int)∧f 5 = .slice (some ⟨w.heap.size,0,none⟩) r r∧f 10 = .int .i64 ((r:Nat):Int)∧f 11 = .int .i64 ((i:Nat):Int) ∧
  Ext w w'∧Outer 46 w' w.heap.size r i c gs∧(∀ k,k < i→RowB w' (gs k) c true (fun _=>0) (fun _=>0)∧w.heap.size < gs k)∧(∀ k k',k < i→k' < i→gs k = gs k'→k = k'))
  r ⟨0,fun _=>0,rfl,Nat.zero_le _,rfl,rfl,rfl,rfl,hE,outer_made hB,fun k hk=>absurd hk (by omega),fun k k' hk=>absurd hk (by omega)⟩ ?_
 clear hB hE hsz w1
 rintro m f w1 ⟨i,gs,rfl,hi,hf1,hf5,hf10,hf11,hE,hO,hrow,hinj⟩
 rw [ui hf1,ui hf5,ui hf10,ui hf11]
 clear hf1 hf5 hf10 hf11
 by_cases hlt:i < r
 · refine gg ?_
   refine R1_make sl_Int (.inl rfl) rfl rfl (Nat.le_refl _) (by omega) (by omega) ?_
   intro w2 hB2 hE2 hs2
   refine gg ?_
   refine R1_storeRow (one_of rfl) (.inl rfl) rfl rfl (hO.ext hE2) hlt ?_
   intro w3 ⟨_,hO3⟩ hC3 hk3 hs3
   have hg:=hO.lt
   refine gg ?_
   refine ⟨_,?_,i + 1,setN gs i w1.heap.size,rfl,by omega,rfl,rfl,rfl,rfl,hC3.ext_of (hE.trans hE2) (fun b hb=>by omega),hO3 rfl,fun k hk=>?_,fun k k' hk hk' e=>?_⟩
   · omega
   · by_cases e:k = i
     · subst e
       simp only [setN,if_true]
       exact ⟨(rowB_made true 0 hB2).kp hk3 hC3 (by omega),by omega⟩
     · simp only [setN,if_neg e]
       obtain ⟨h1,h2⟩:=hrow k (by omega)
       exact ⟨(h1.ext hE2).kp hk3 hC3 (by omega),h2⟩
   · have hl:∀ k,k < i→gs k < w1.heap.size:=fun k hk=>(hrow k hk).1.lt
     simp only [setN] at e
     split at e <;> split at e
     · omega
     · have:=hl k' (by omega); omega
     · have:=hl k (by omega); omega
     · exact hinj k k' (by omega) (by omega) e
 · refine gg ?_
   have:i = r:=by omega
   subst this
   refine ret1 (v:=.slice _ _ _) rfl rfl ⟨hE,_,gs,rfl,Nat.le_refl _,fun k hk=>Nat.le_of_lt (hrow k hk).2,?_⟩
   exact (WMat.mk (bn:=fun _ _=>0) hO.full (fun k hk=>(hrow k hk).1) (fun k hk=>by have:=(hrow k hk).2; omega) hinj).o
def RMB (w:World) (ok:Bool) (r c:Nat) (M:Nat→Nat→Int) (v:Value) (w':World):Prop :=
 if ok then ∃ u,v = .tuple #[u,.bool true]∧RM w r c M u w' else Ext w w'∧v = .tuple #[.slice none 0 0,.bool false]
end Go.Proofs.YtncbjgblcofddaaGreatDoor
namespace Go.Proofs.YtncbjgblcofddaaGreatDoor
open Go Go.Eng Go.Num Go.Proofs
def sameL (c1 c2:Nat) (g1 g2:Nat→Int):Prop:=c1 = c2∧∀ j,j < c1→g1 j = g2 j
set_option maxHeartbeats 8000000 in
theorem rsameList_ok (v1 v2:Value) (c1 c2 N:Nat) (g1 g2:Nat→Int) (w:World) (h1:RowE (EC N) w v1 c1 g1) (h2:RowE (EC N) w v2 c2 g2) (hN:N < 1099511627776) :
 Meets Tryz.prog 60 #[v1,v2] w fun v w'=>Ext w w'∧∃ b,v = .bool b∧(b = true ↔ sameL c1 c2 g1 g2):=by
 obtain ⟨A1,p1,rfl,hp1,hq1,hr1⟩:=h1
 obtain ⟨A2,p2,rfl,hp2,hq2,hr2⟩:=h2
 refine fn_W (n:=27) Tryz.func60 rfl rfl (by kernel_rfl) (by simp) ?_
 refine gg ?_
 refine W_seq ?_
 by_cases hc:¬ c1 = c2
 · refine gg ?_
   exact ret1 (v:=.bool _) rfl rfl ⟨Ext.refl _,_,rfl,by simp [sameL,hc]⟩
 have hc:=Classical.not_not.1 hc
 subst hc
 refine gg ?_
 refine W_seq ?_
 refine gg ?_
 refine W_loop (fun m f w'=>∃ i,m = c1 - i∧i≤c1∧f 0 = .slice A1 c1 p1∧f 1 = .slice A2 c1 p2∧f 12 = .int .i64 ((c1:Nat):Int)∧f 13 = .int .i64 ((i:Nat):Int)∧Ext w w'∧∀ j,j < i→g1 j = g2 j)
  c1 ⟨0,rfl,Nat.zero_le _,rfl,rfl,rfl,rfl,Ext.refl _,fun j hj=>absurd hj (by omega)⟩ ?_
 rintro m f w1 ⟨i,rfl,hi,hf0,hf1,hf12,hf13,hE,hk⟩
 rw [ui hf0,ui hf1,ui hf12,ui hf13]
 clear hf0 hf1 hf12 hf13
 by_cases hlt:i < c1
 · obtain ⟨ad1,x1,y1,e1,hx1,hy1,hv1⟩:=hr1 i hlt
   obtain ⟨ad2,x2,y2,e2,hx2,hy2,hv2⟩:=hr2 i hlt
   subst e1 e2
   refine gg ?_
   refine W_seqD [(0,3),(1,3),(2,3),(3,0),(4,3),(5,3),(6,3),(7,0),(8,1),(9,3)] mixed (by kernel_rfl) (fun w2 hE2 _=>?_)
   have hE':=hE.trans hE2
   have a1:=cell_ext hE' hx1
   have a2:=cell_ext hE' hy1
   have a3:=cell_ext hE' hx2
   have a4:=cell_ext hE' hy2
   refine gg ?_
   refine R1_call1 (rsame_ok _ _ _ _ _ _ N N w2 (hv1.1.ext hE') (hv2.1.ext hE') hN hN hv1.2 hv2.2) ?_
   rintro _ w3 ⟨hE3,rfl⟩
   refine ⟨hE3,?_⟩
   by_cases hs:g1 i = g2 i
   · have e0:decide (g1 i = g2 i) = true:=decide_eq_true hs
     rw [e0]
     refine gg ?_
     refine ⟨_,?_,i + 1,rfl,by omega,rfl,rfl,rfl,rfl,hE'.trans hE3,fun j hj=>?_⟩
     · omega
     · by_cases e:j = i
       · rw [e]; exact hs
       · exact hk j (by omega)
   · have e0:decide (g1 i = g2 i) = false:=decide_eq_false hs
     rw [e0]
     refine gg ?_
     exact ret1 (v:=.bool _) rfl rfl ⟨hE'.trans hE3,_,rfl,by simp only [Bool.false_eq_true,false_iff]; exact fun h=>hs (h.2 i hlt)⟩
 · refine gg ?_
   exact ret1 (v:=.bool _) rfl rfl ⟨hE,_,rfl,by simp only [true_iff]; exact ⟨rfl,fun j hj=>hk j (by omega)⟩⟩
def sameM (r1 r2:Nat) (len1 len2:Nat→Nat) (M1 M2:Nat→Nat→Int):Prop:=r1 = r2∧∀ i,i < r1→sameL (len1 i) (len2 i) (M1 i) (M2 i)
set_option maxHeartbeats 8000000 in
theorem rsameM_ok (v1 v2:Value) (r1 r2 N:Nat) (len1 len2:Nat→Nat) (M1 M2:Nat→Nat→Int) (w:World) (h1:MatE (EC N) w v1 r1 len1 M1) (h2:MatE (EC N) w v2 r2 len2 M2) (hN:N < 1099511627776) :
 Meets Tryz.prog 28 #[v1,v2] w fun v w'=>Ext w w'∧∃ b,v = .bool b∧(b = true ↔ sameM r1 r2 len1 len2 M1 M2):=by
 obtain ⟨A1,p1,rfl,hp1,hq1,hr1⟩:=h1
 obtain ⟨A2,p2,rfl,hp2,hq2,hr2⟩:=h2
 refine fn_W (n:=27) Tryz.func28 rfl rfl (by kernel_rfl) (by simp) ?_
 refine gg ?_
 refine W_seq ?_
 by_cases hc:¬ r1 = r2
 · refine gg ?_
   exact ret1 (v:=.bool _) rfl rfl ⟨Ext.refl _,_,rfl,by simp [sameM,hc]⟩
 have hc:=Classical.not_not.1 hc
 subst hc
 refine gg ?_
 refine W_seq ?_
 refine gg ?_
 refine W_loop (fun m f w'=>∃ i,m = r1 - i∧i≤r1∧f 0 = .slice A1 r1 p1∧f 1 = .slice A2 r1 p2∧f 12 = .int .i64 ((r1:Nat):Int)∧f 13 = .int .i64 ((i:Nat):Int)∧Ext w w'∧∀ j,j < i→sameL (len1 j) (len2 j) (M1 j) (M2 j))
  r1 ⟨0,rfl,Nat.zero_le _,rfl,rfl,rfl,rfl,Ext.refl _,fun j hj=>absurd hj (by omega)⟩ ?_
 rintro m f w1 ⟨i,rfl,hi,hf0,hf1,hf12,hf13,hE,hk⟩
 rw [ui hf0,ui hf1,ui hf12,ui hf13]
 clear hf0 hf1 hf12 hf13
 by_cases hlt:i < r1
 · obtain ⟨ad1,u1,e1,hx1,hv1⟩:=hr1 i hlt
   obtain ⟨ad2,u2,e2,hx2,hv2⟩:=hr2 i hlt
   subst e1 e2
   refine gg ?_
   refine W_seqD [(0,3),(1,3),(2,3),(3,0),(4,3),(5,3),(6,3),(7,0),(8,1),(9,3)] mixed (by kernel_rfl) (fun w2 hE2 _=>?_)
   have hE':=hE.trans hE2
   have a1:=cell_ext hE' hx1
   have a3:=cell_ext hE' hx2
   refine gg ?_
   refine R1_call1 (rsameList_ok _ _ _ _ N _ _ w2 (hv1.extC hE') (hv2.extC hE') hN) ?_
   rintro _ w3 ⟨hE3,b,rfl,hb⟩
   refine ⟨hE3,?_⟩
   cases b
   · refine gg ?_
     exact ret1 (v:=.bool _) rfl rfl ⟨hE'.trans hE3,_,rfl,by simp only [Bool.false_eq_true,false_iff] at hb ⊢; exact fun h=>hb (h.2 i hlt)⟩
   · refine gg ?_
     refine ⟨_,?_,i + 1,rfl,by omega,rfl,rfl,rfl,rfl,hE'.trans hE3,fun j hj=>?_⟩
     · omega
     · by_cases e:j = i
       · rw [e]; exact hb.1 rfl
       · exact hk j (by omega)
 · refine gg ?_
   exact ret1 (v:=.bool _) rfl rfl ⟨hE,_,rfl,by simp only [true_iff]; exact ⟨rfl,fun j hj=>hk j (by omega)⟩⟩
def RowZ (w:World) (v:Value) (c:Nat) (g:Nat→Int):Prop :=
 ∃ A cap,v = .slice A c cap∧c≤cap∧cap < 9223372036854775808∧∀ j,j < c→∃ ad,A = some ad∧w.cell? (ad.add (j * 1)) = some (.int .i64 (g j))∧-9223372036854775808≤g j∧g j < 9223372036854775808
def MatZ (w:World) (v:Value) (r:Nat) (len:Nat→Nat) (M:Nat→Nat→Int):Prop :=
 ∃ A cap,v = .slice A r cap∧r≤cap∧cap < 9223372036854775808∧∀ i,i < r→∃ ad u,A = some ad∧w.cell? (ad.add (i * 1)) = some u∧RowZ w u (len i) (M i)
theorem bd_i64 {z:Int} (h1:-9223372036854775808≤z) (h2:z < 9223372036854775808):Bd 2 z:=by
 unfold Bd
 have:B ^ 2 = 18446744073709551616:=by decide
 omega
set_option maxHeartbeats 8000000 in
theorem rfromInts_ok (v:Value) (r:Nat) (len:Nat→Nat) (M:Nat→Nat→Int) (w:World) (h:MatZ w v r len M) :
 Meets Tryz.prog 113 #[v] w (RMB w (okM r len) r (len 0) M):=by
 obtain ⟨A,cap,rfl,hrc,hcap,hrow⟩:=h
 refine fn_W (n:=78) Tryz.func113 rfl rfl (by kernel_rfl) (by simp) ?_
 refine gg ?_
 refine W_seq ?_
 have bad:∀ w',¬ okM r len = true→Ext w w'→RMB w (okM r len) r (len 0) M (.tuple #[.slice none 0 0,.bool false]) w':=fun w' hb hE=>by unfold RMB; rw [if_neg hb]; exact ⟨hE,rfl⟩
 by_cases h1:r < 1
 · refine gg ?_
   exact ret2 (v:=.slice _ _ _) (v':=.bool _) rfl rfl rfl (bad _ (fun e=>by have:=okM_iff.1 e; omega) (Ext.refl _))
 by_cases h2:16 < r
 · refine gg ?_
   exact ret2 (v:=.slice _ _ _) (v':=.bool _) rfl rfl rfl (bad _ (fun e=>by have:=okM_iff.1 e; omega) (Ext.refl _))
 obtain ⟨ad,u,rfl,hu,hR0⟩:=hrow 0 (by omega)
 obtain ⟨A0,cap0,rfl,hr0⟩:=id hR0
 have hx0:w.cell? (ad.add (((0:Nat):Nat) * 1)) = some (.slice A0 (len 0) cap0):=hu
 refine gg ?_
 refine W_seqM (fun f w'=>w = w'∧f 0 = .slice (some ad) r cap∧okM r len = true) ?_ ?_
 · refine gg ?_
   refine W_loop (fun m f w'=>w = w'∧∃ i,m = r - i∧i≤r∧f 0 = .slice (some ad) r cap∧f 17 = .slice (some ad) r cap∧f 18 = .int .i64 ((r:Nat):Int)∧f 19 = .int .i64 ((i:Nat):Int)∧∀ k,k < i→len k = len 0∧1≤len 0∧len 0≤16)
    r ⟨rfl,0,rfl,Nat.zero_le _,rfl,rfl,rfl,rfl,fun k hk=>absurd hk (by omega)⟩ ?_
   rintro m f w' ⟨rfl,i,rfl,hi,hf0,hf15,hf16,hf17,hk⟩
   rw [ui hf0,ui hf15,ui hf16,ui hf17]
   clear hf0 hf15 hf16 hf17
   by_cases hlt:i < r
   · obtain ⟨ad',u,e,hx,Ai,capi,rfl,hri⟩:=hrow i hlt
     obtain rfl:ad = ad':=Option.some.inj e
     by_cases ha:len i < 1
     · refine gg ?_
       exact ret2 (v:=.slice _ _ _) (v':=.bool _) rfl rfl rfl (bad _ (fun e=>by have a:=okM_iff.1 e; have b:=a.2 i hlt; omega) (Ext.refl _))
     by_cases hb:16 < len i
     · refine gg ?_
       exact ret2 (v:=.slice _ _ _) (v':=.bool _) rfl rfl rfl (bad _ (fun e=>by have a:=okM_iff.1 e; have b:=a.2 i hlt; omega) (Ext.refl _))
     by_cases hne:len i = len 0
     · refine gg ?_
       refine ⟨_,?_,rfl,i + 1,rfl,by omega,rfl,rfl,rfl,rfl,fun k hk'=>?_⟩
       · omega
       · rcases Nat.lt_succ_iff_lt_or_eq.1 hk' with h | h
         · exact hk k h
         · rw [h]; omega
     · refine gg ?_
       exact ret2 (v:=.slice _ _ _) (v':=.bool _) rfl rfl rfl (bad _ (fun e=>hne ((okM_iff.1 e).2 i hlt)) (Ext.refl _))
   · refine gg ?_
     have:=hk 0 (by omega)
     exact ⟨rfl,rfl,okM_iff.2 ⟨⟨by omega,by omega,by omega,by omega⟩,fun k hk'=>(hk k (by omega)).1⟩⟩
 · rintro f w' ⟨rfl,hf0,hok⟩
   rw [ui hf0]
   clear hf0
   obtain ⟨⟨_,_,hl0,hl1⟩,hlen⟩:=okM_iff.1 hok
   refine gg ?_
   refine R1_call2 (zero_ok r (len 0) w (by omega) (by omega)) ?_
   rintro _ w1 ⟨hE,gO,gs,rfl,hg,hgs,hO⟩
   refine gg ?_
   refine W_seq ?_
   refine gg ?_
   refine W_loop (fun m f w'=>∃ i,m = r - i∧i≤r∧f 0 = .slice (some ad) r cap∧f 6 = .slice (some ⟨gO,0,none⟩) r r∧f 49 = .int .i64 ((r:Nat):Int)∧f 50 = .int .i64 ((i:Nat):Int) ∧
    Ext w w'∧WMat w' gO gs r (len 0) true (fun _ _=>2) (fun a b=>if a < i then M a b else 0))
    r ⟨0,rfl,Nat.zero_le _,rfl,rfl,rfl,rfl,hE,(hO.wm true (N:=2) (fun _ _ _ _=>Bd.zero 2)).congr (fun i j _ _=>⟨Nat.le_refl _,by simp⟩)⟩ ?_
   clear hO hE w1
   rintro m f w1 ⟨i,rfl,hi,hf0,hf6,hf49,hf50,hE,hW⟩
   rw [ui hf0,ui hf6,ui hf49,ui hf50]
   clear hf0 hf6 hf49 hf50
   by_cases hlt:i < r
   · obtain ⟨ad',u,e,hx,Ai,capi,rfl,hci,hdi,hri⟩:=hrow i hlt
     obtain rfl:ad = ad':=Option.some.inj e
     rw [hlen i hlt] at hx hci hri
     have hx1:=cell_ext hE hx
     refine gg ?_
     refine W_loop (fun m f w'=>∃ j,m = len 0 - j∧j≤len 0∧f 0 = .slice (some ad) r cap∧f 6 = .slice (some ⟨gO,0,none⟩) r r∧f 7 = .int .i64 ((i:Nat):Int)∧f 49 = .int .i64 ((r:Nat):Int)∧f 50 = .int .i64 ((i:Nat):Int) ∧
      f 57 = .int .i64 ((len 0:Nat):Int)∧f 58 = .int .i64 ((j:Nat):Int)∧Ext w w'∧WMat w' gO gs r (len 0) true (fun _ _=>2) (fun a b=>if a < i ∨ a = i∧b < j then M a b else 0))
      (len 0) ⟨0,rfl,Nat.zero_le _,rfl,rfl,rfl,rfl,rfl,rfl,rfl,hE,hW.congr (fun a b _ _=>⟨Nat.le_refl _,by by_cases e:a < i <;> simp [e]⟩)⟩ ?_
     clear hW hE hx1 w1
     rintro m f w1 ⟨j,rfl,hj,hf0,hf6,hf7,hf49,hf50,hf57,hf58,hE,hW⟩
     rw [ui hf0,ui hf6,ui hf7,ui hf49,ui hf50,ui hf57,ui hf58]
     clear hf0 hf6 hf7 hf49 hf50 hf57 hf58
     by_cases hjc:j < len 0
     · obtain ⟨ad2,rfl,hz,hz1,hz2⟩:=hri j hjc
       refine gg ?_
       refine W_regD [(0,3),(1,3),(2,3),(3,0),(4,3),(5,3),(6,3),(7,3),(8,0),(9,3),(10,3),(11,0),(12,1),(13,3),(14,2)] mixed (by kernel_rfl) (fun w2 hE2 _=>?_)
       have hW2:=hW.ext hE2
       have hx2:=hW2.at hlt
       have hx3:=cell_ext (hE.trans hE2) hx
       have hx4:=cell_ext (hE.trans hE2) hz
       refine gg ?_
       refine R1_call1 (rsmall_ok (M i j) w2 hz1 hz2) ?_
       rintro _ w3 ⟨hE3,x,y,rfl,hcv⟩
       refine ⟨hE3,?_⟩
       refine gg ?_
       refine R1_storeE (.inl rfl) rfl rfl ((hW2.ext hE3).row i hlt) hjc (hcv.ev true (N:=2) (bd_i64 hz1 hz2)) ?_
       intro w4 hR4 hC4 hk4 hs4
       have hW4:=(hW2.ext hE3).put hlt hR4 hC4 hk4
       refine gg ?_
       have hgi:=hgs i hlt
       refine ⟨_,?_,j + 1,rfl,by omega,rfl,rfl,rfl,rfl,rfl,rfl,rfl,hC4.ext_of (hE.trans (hE2.trans hE3)) (fun b hb=>by omega),hW4.congr (fun a b ha hb=>⟨?_,?_⟩)⟩
       · omega
       · unfold set2; split <;> exact Nat.le_refl _
       · simp only [set2]
         by_cases e:a = i∧b = j
         · obtain ⟨rfl,rfl⟩:=e
           rw [if_pos ⟨rfl,rfl⟩,if_pos (by omega)]
         · rw [if_neg e]
           by_cases e2:a < i ∨ a = i∧b < j
           · rw [if_pos e2,if_pos (by omega)]
           · rw [if_neg e2,if_neg (by omega)]
     · refine gg ?_
       refine ⟨_,?_,i + 1,rfl,by omega,rfl,rfl,rfl,rfl,hE,hW.congr (fun a b ha hb=>⟨Nat.le_refl _,?_⟩)⟩
       · omega
       · by_cases e2:a < i + 1
         · rw [if_pos e2,if_pos (by omega)]
         · rw [if_neg e2,if_neg (by omega)]
   · refine gg ?_
     have:i = r:=by omega
     subst this
     refine ret2 (v:=.slice _ _ _) (v':=.bool _) rfl rfl rfl ?_
     unfold RMB
     rw [if_pos hok]
     exact ⟨_,rfl,hE,gO,gs,rfl,hg,hgs,(hW.congr (bn':=fun _ _=>2) (M':=M) (fun a b ha hb=>⟨Nat.le_refl _,by rw [if_pos ha]⟩)).o⟩
def RMN (w:World) (ok:Bool) (r c:Nat) (M:Nat→Nat→Int) (v:Value) (w':World):Prop :=
 if ok then RM w r c M v w' else Ext w w'∧v = .slice none 0 0
theorem RMN.get {w:World} {ok:Bool} {r c:Nat} {M:Nat→Nat→Int} {v:Value} {w':World} (h:RMN w ok r c M v w') (hok:ok = true):RM w r c M v w':=by unfold RMN at h; rwa [if_pos hok] at h
theorem RMB.get {w:World} {ok:Bool} {r c:Nat} {M:Nat→Nat→Int} {v:Value} {w':World} (h:RMB w ok r c M v w') (hok:ok = true):∃ u,v = .tuple #[u,.bool true]∧RM w r c M u w':=by unfold RMB at h; rwa [if_pos hok] at h
theorem RMB.no {w:World} {ok:Bool} {r c:Nat} {M:Nat→Nat→Int} {v:Value} {w':World} (h:RMB w ok r c M v w') (hok:ok = false):Ext w w'∧v = .tuple #[.slice none 0 0,.bool false]:=by unfold RMB at h; rwa [if_neg (by rw [hok]; decide)] at h
set_option maxHeartbeats 8000000 in
theorem rof_ok (v:Value) (r:Nat) (len:Nat→Nat) (M:Nat→Nat→Int) (w:World) (h:MatZ w v r len M) :
 Meets Tryz.prog 56 #[v] w (RMN w (okM r len) r (len 0) M):=by
 refine fn_W (n:=11) Tryz.func56 rfl rfl (by kernel_rfl) (by simp) ?_
 refine gg ?_
 refine R1_call2 (rfromInts_ok v r len M w h) ?_
 intro v' w' hv
 unfold RMB at hv
 by_cases hok:okM r len = true
 · rw [if_pos hok] at hv
   obtain ⟨u,rfl,hE,gO,gs,rfl,hrest⟩:=hv
   refine gg ?_
   refine ret1 (v:=.slice _ _ _) rfl rfl ?_
   unfold RMN
   rw [if_pos hok]
   exact ⟨hE,gO,gs,rfl,hrest⟩
 · rw [if_neg hok] at hv
   obtain ⟨hE,rfl⟩:=hv
   refine gg ?_
   refine ret1 (v:=.slice _ _ _) rfl rfl ?_
   unfold RMN
   rw [if_neg hok]
   exact ⟨hE,rfl⟩
end Go.Proofs.YtncbjgblcofddaaGreatDoor
namespace Go.Proofs.YtncbjgblcofddaaGreatDoor
open Go Go.Eng Go.Num Go.Proofs
section
variable {n:Nat} {S:World→World→Prop} {k:Nat} {K:Fr→World→Prop} {f:Fr} {w:World}
 {d ty t t2:Nat} {x y:Operand} {pos:String} {aft:Array Edge} {gd:Option (Nat × Bool)}
theorem ch_setRow (w:World) (g:Nat) (cs:Array Value):Ch (fun b=>b = g) w (w.setRow g cs) :=
 ⟨rfl,rfl,rfl,by simp [World.setRow],fun b _ hn=>setRow_other w g b cs hn⟩
theorem R1_copyE {g c N:Nat} {cn:Bool} {bn:Nat→Nat} {M0 M:Nat→Int} {u:Value} (hx:ev n f x = .slice (some ⟨g,0,none⟩) c c) (hy:ev n f y = u) (hr:RowB w g c cn bn M0) (hs:RowE (EI N) w u c M) (hc:0 < c)
 (h:∀ w',RowB w' g c false (fun _=>N) M→Ch (fun b=>b = g) w w'→Kp w w'→w'.heap.size = w.heap.size→K (upd f d (.int .i64 ((c:Nat):Int))) w') :
 R1 Tryz.prog n S 2 ⟨some d,.call { callee:=.builtin .copy,args:=#[x,y],argTypes:=#[46,46] },ty,pos,aft,gd⟩ K f w:=by
 obtain ⟨hh,hB,hcc⟩:=hr
 obtain ⟨A,cap,rfl,hcap,hcap2,hsr⟩:=hs
 obtain ⟨ad,_,_,rfl,_⟩:=hsr 0 hc
 have hsr':∀ j,j < c→∃ x y,w.cell? (ad.add (j * 2)) = some x∧w.cell? (ad.add (j * 2 + 1)) = some y∧IV w N x y (M j):=fun j hj=>by
  obtain ⟨ad',a,b,e,h1,h2,h3⟩:=hsr j hj
  injection e with e; subst e
  rw [add_add] at h2
  exact ⟨a,b,h1,h2,h3⟩
 let h':Nat→Value:=fun k=>(w.cell? (ad.add k)).getD undef
 have hget:∀ k,k < c * 2→w.cell? (ad.add k) = some (h' k)∧(h' k).oneCell' = true:=fun k hk=>by
  obtain ⟨a,b,h1,h2,h3⟩:=hsr' (k / 2) (by omega)
  rcases Nat.mod_two_eq_zero_or_one k with hm | hm
  · rw [show k / 2 * 2 = k by omega] at h1
    have:h' k = a:=by simp [h',h1]
    rw [this]; exact ⟨h1,h3.one0⟩
  · rw [show k / 2 * 2 + 1 = k by omega] at h2
    have:h' k = b:=by simp [h',h2]
    rw [this]; exact ⟨h2,h3.one1⟩
 have hl:=run_loadCells_list (P:=Tryz.prog) w ad ((List.range (c * 2)).map h') (fun j v hj=>by
  simp only [List.getElem?_map] at hj
  by_cases hjc:j < c * 2
  · rw [List.getElem?_range hjc] at hj
    simp at hj
    rw [← hj]; exact (hget j hjc).1
  · rw [List.getElem?_eq_none (by simp; omega)] at hj; simp at hj)
 have hst:=run_storeCells_at Tryz.prog g 0 41 ((List.range (c * 2)).map h') 0 (arr (c * 2) hh) w hB (by simp [arr_size]) (fun v hv=>by
  obtain ⟨k,hk,rfl⟩:=List.mem_map.1 hv
  exact (hget k (by simpa using hk)).2)
 have hcs:(((arr (c * 2) hh).toList.take (0 + 0) ++ (List.range (c * 2)).map h' ++ (arr (c * 2) hh).toList.drop (0 + 0 + ((List.range (c * 2)).map h').length)).toArray) = arr (c * 2) h':=by
  have:(arr (c * 2) hh).toList.drop (0 + 0 + ((List.range (c * 2)).map h').length) = []:=List.drop_eq_nil_of_le (by simp [arr_size])
  rw [this]
  apply Array.ext_getElem?
  intro i
  by_cases hi:i < c * 2
  · rw [arr_at hi]; simp [hi]
  · simp [arr,hi]
 rw [hcs] at hst
 have hk:=kp_ch hB (rowB_noInt hcc).noU (ch_setRow w g (arr (c * 2) h'))
 obtain ⟨hu,hinfo⟩:=sl_Int
 cases hi:Tryz.prog.info? 41 with
 | none=>rw [hi] at hinfo; simp at hinfo
 | some i =>
  rw [hi] at hinfo
  simp at hinfo
  obtain ⟨hz,hsz,hby⟩:=hinfo
  have hmin:Nat.min c c = c:=Nat.min_self c
  simp only [List.length_map,List.length_range] at hl
  refine R1_loud (v:=.int .i64 ((c:Nat):Int)) (w':=w.setRow g (arr (c * 2) h')) (.inl rfl) ?_ (h _ ⟨h',setRow_heap w g _ _ _ _ hB,fun j hj=>?_⟩ (ch_setRow _ _ _) hk (by simp [World.setRow]))
  · simp [execOp,resolve,invoke,builtin,hx,hy,Builtin.copy_,run_underlying hu,Builtin.lenOf,Builtin.firstCells,sizeOf,typeInfo,hi,hsz,hl,hst,goInt]
  · obtain ⟨a,b,h1,h2,h3⟩:=hsr' j hj
    have e1:h' (j * 2) = a:=by simp [h',h1]
    have e2:h' (j * 2 + 1) = b:=by simp [h',h2]
    rw [e1,e2]
    exact ⟨h3.kp hk,fun e=>by cases e⟩
end
def elim (k:Nat) (last:Int) (M:Nat→Nat→Int):Nat→Nat→Int:=fun i j=>if k < i∧k < j then (M k k * M i j - M i k * M k j) / last else M i j
def swp {α:Type} (k p:Nat) (M:Nat→α):Nat→α:=fun i=>if i = k then M p else if i = p then M k else M i
def findP (n k:Nat) (M:Nat→Nat→Int):Nat→Nat→Nat
 | 0,p=>p
 | fuel + 1,p=>if p < n∧M p k = 0 then findP n k M fuel (p + 1) else p
def pivot (n k:Nat) (M:Nat→Nat→Int):Nat:=findP n k M (n - k) k
def detGo (n:Nat):Nat→Nat→(Nat→Nat→Int)→Bool→Int→Int
 | 0,_,_,neg,last=>if neg then -last else last
 | m + 1,k,M,neg,last =>
  if pivot n k M = n then 0 else
   detGo n m (k + 1) (elim k last (swp k (pivot n k M) M)) (neg != decide (pivot n k M ≠ k)) (swp k (pivot n k M) M k k)
def detB (n:Nat) (M:Nat→Nat→Int):Int:=detGo n n 0 M false 1
theorem findP_step {n k:Nat} {M:Nat→Nat→Int} {p:Nat} (h:p < n∧M p k = 0):findP n k M (n - p) p = findP n k M (n - (p + 1)) (p + 1):=by
 obtain ⟨m,hm⟩ : ∃ m,n - p = m + 1:=⟨n - p - 1,by omega⟩
 rw [hm,show n - (p + 1) = m by omega,findP,if_pos h]
theorem findP_stop {n k:Nat} {M:Nat→Nat→Int} {p:Nat} (h:¬ (p < n∧M p k = 0)):findP n k M (n - p) p = p:=by
 cases n - p with
 | zero=>rfl
 | succ m=>rw [findP,if_neg h]
def Nb (N:Nat):Nat→Nat
 | 0=>N
 | k + 1=>2 * Nb N k + 1
theorem Nb_mono (N k:Nat):Nb N k≤Nb N (k + 1):=by simp only [Nb]; omega
theorem Nb_le (N k:Nat):Nb N k + 1 = 2 ^ k * (N + 1):=by
 induction k with
 | zero=>simp [Nb]
 | succ k ih=>simp only [Nb]; rw [Nat.pow_succ,Nat.mul_comm (2 ^ k) 2,Nat.mul_assoc,← ih]; omega
theorem Nb_big {N k:Nat} (hN:N < 1048576) (hk:k≤16):Nb N k < 68719476736:=by
 have h:=Nb_le N k
 have h2:2 ^ k≤2 ^ 16:=Nat.pow_le_pow_right (by decide) hk
 have h3:2 ^ k * (N + 1)≤2 ^ 16 * 1048576:=Nat.mul_le_mul h2 (by omega)
 omega
theorem elim_bd {N k i j:Nat} {last:Int} {M:Nat→Nat→Int} (h:∀ i j,Bd N (M i j)):Bd (2 * N + 1) (elim k last M i j):=by
 unfold elim
 split
 · have a:=(h k k).mul (h i j)
   have b:=(h i k).mul (h k j)
   have:=(a.sub b).ediv (b:=last)
   rwa [← Nat.two_mul] at this
 · exact (h i j).mono (by omega)
end Go.Proofs.YtncbjgblcofddaaGreatDoor
namespace Go.Proofs.YtncbjgblcofddaaGreatDoor
open Go Go.Eng Go.Num Go.Proofs
theorem swp_self {α:Type} (k:Nat) (M:Nat→α):swp k k M = M:=by
 funext i; simp only [swp]; split
 · rename_i h; rw [h]
 · rfl
theorem WMat.swap {w w':World} {gO r c k p:Nat} {gs:Nat→Nat} {cn:Bool} {b:Nat} {M:Nat→Nat→Int} (h:WMat w gO gs r c cn (fun _ _=>b) M) (hk:k < r) (hp:p < r) (hC:Ch (fun b=>b = gO) w w') (hkp:Kp w w')
 (hO:Outer 46 w' gO r r c (swp k p gs)):WMat w' gO (swp k p gs) r c cn (fun _ _=>b) (swp k p M):=by
 have key:∀ i,i < r→∃ j,j < r∧swp k p gs i = gs j∧swp k p M i = M j∧j = swp k p id i:=fun i hi=>by
  simp only [swp]
  split
  · exact ⟨p,hp,rfl,rfl,rfl⟩
  · split
    · exact ⟨k,hk,rfl,rfl,rfl⟩
    · exact ⟨i,hi,rfl,rfl,rfl⟩
 refine ⟨hO.full,fun i hi=>?_,fun i hi=>?_,fun i j hi hj e=>?_⟩
 · obtain ⟨j,hj,e1,e2,_⟩:=key i hi
   rw [e1,e2]
   exact (h.row j hj).kp hkp hC (h.ne j hj)
 · obtain ⟨j,hj,e1,e2,_⟩:=key i hi
   rw [e1]; exact h.ne j hj
 · obtain ⟨a,ha,e1,_,e3⟩:=key i hi
   obtain ⟨b,hb,f1,_,f3⟩:=key j hj
   rw [e1,f1] at e
   have:=h.inj a b ha hb e
   subst this
   rw [e3] at f3
   simp only [swp,id] at f3
   split at f3 <;> split at f3 <;> (try split at f3) <;> (try split at f3) <;> omega
set_option maxHeartbeats 16000000 in
theorem determinant_ok (v:Value) (n N:Nat) (M:Nat→Nat→Int) (w:World) (h:MatE (EI N) w v n (fun _=>n) M) (hn:1≤n) (hn2:n≤16) (hN1:1≤N) (hN:N < 1048576) :
 Meets Tryz.prog 151 #[v] w (RI w (detB n M)):=by
 obtain ⟨A,cap,rfl,hrc,hcap,hrow⟩:=h
 refine fn_W (n:=149) Tryz.func151 rfl rfl (by kernel_rfl) (by simp) ?_
 refine gg ?_
 refine R1_alloc (.inl rfl) z_Int ?_
 intro w1 hB1 hE1 hs1
 have hR1:Bx w1 w.heap.size 1 true 0:=Bx.zero true hB1
 clear hB1
 refine gg ?_
 refine R1_make sl_sInt (.inl rfl) rfl rfl (Nat.le_refl _) (by omega) (by omega) ?_
 intro w2 hB2 hE2 hs2
 obtain ⟨gR,hgR⟩ : ∃ g,g = w.heap.size:=⟨_,rfl⟩
 obtain ⟨gO,hgO⟩ : ∃ g,g = w1.heap.size:=⟨_,rfl⟩
 rw [← hgR] at hR1 ⊢
 rw [← hgO] at hB2 ⊢
 have hRO:gR < gO:=by omega
 have hO2:Outer 46 w2 gO n 0 n (fun _=>0):=outer_made hB2
 have hR2:=hR1.ext hE2
 have hE:=hE1.trans hE2
 clear hB2 hR1 hE1 hE2
 refine gg ?_
 refine W_seqM (fun f w'=>∃ gs,f 2 = .pointer (some ⟨gR,0,none⟩)∧f 3 = .int .i64 ((n:Nat):Int)∧f 4 = .slice (some ⟨gO,0,none⟩) n n∧Ext w w'∧Bx w' gR 1 true 0∧WMat w' gO gs n n false (fun _ _=>N) M∧∀ k,k < n→gO < gs k) ?_ ?_
 · refine gg ?_
   refine W_loop (fun m f w'=>∃ i gs,m = n - i∧i≤n∧f 2 = .pointer (some ⟨gR,0,none⟩)∧f 3 = .int .i64 ((n:Nat):Int)∧f 4 = .slice (some ⟨gO,0,none⟩) n n∧f 19 = .slice A n cap∧f 20 = .int .i64 ((n:Nat):Int)∧f 21 = .int .i64 ((i:Nat):Int) ∧
    Ext w w'∧Bx w' gR 1 true 0∧Outer 46 w' gO n i n gs∧(∀ k,k < i→RowB w' (gs k) n false (fun _=>N) (M k)∧gO < gs k)∧(∀ k k',k < i→k' < i→gs k = gs k'→k = k'))
    n ⟨0,fun _=>0,rfl,Nat.zero_le _,rfl,rfl,rfl,rfl,rfl,rfl,hE,hR2,hO2,fun k hk=>absurd hk (by omega),fun k k' hk=>absurd hk (by omega)⟩ ?_
   clear hO2 hE hR2 hs2
   rintro m f w1 ⟨i,gs,rfl,hi,hf2,hf3,hf4,hf19,hf20,hf21,hE,hR,hO,hrows,hinj⟩
   rw [ui hf2,ui hf3,ui hf4,ui hf19,ui hf20,ui hf21]
   clear hf2 hf3 hf4 hf19 hf20 hf21
   by_cases hlt:i < n
   · obtain ⟨ad,u,rfl,hx,hru⟩:=hrow i hlt
     obtain ⟨Ai,capi,rfl,hri⟩:=id hru
     have hx1:=cell_ext hE hx
     refine gg ?_
     refine R1_make sl_Int (.inl rfl) rfl rfl (Nat.le_refl _) (by omega) (by omega) ?_
     intro w2 hB2 hE2 hs2
     have hrow2:=rowB_made false 0 hB2
     obtain ⟨g,hg⟩ : ∃ g,g = w1.heap.size:=⟨_,rfl⟩
     rw [← hg] at hrow2 ⊢
     have hgO':=hO.lt
     refine gg ?_
     refine R1_storeRow (one_of rfl) (.inl rfl) rfl rfl (hO.ext hE2) hlt ?_
     intro w3 ⟨_,hO3⟩ hC3 hk3 hs3
     have hO3:=hO3 rfl
     have hx3:=hO3.at (k:=i) (by omega) hlt
     rw [show setN gs i g i = g by simp [setN]] at hx3
     have hrow3:=hrow2.kp hk3 hC3 (by omega)
     have hE3:Ext w w3:=hC3.ext_of (hE.trans hE2) (fun b hb=>by omega)
     refine gg ?_
     refine R1_copyE rfl rfl hrow3 (hru.ext hE3) (by omega) ?_
     intro w4 hrow4 hC4 hk4 hs4
     have hE4:Ext w w4:=hC4.ext_of hE3 (fun b hb=>by omega)
     refine gg ?_
     refine ⟨_,?_,i + 1,setN gs i g,rfl,by omega,rfl,rfl,rfl,rfl,rfl,rfl,hE4,((hR.ext hE2).kp hk3 hC3 (by omega)).kp hk4 hC4 (by omega),hO3.kp hC4 (by omega),fun k hk=>?_,fun k k' hk hk' e=>?_⟩
     · omega
     · by_cases e:k = i
       · subst e
         simp only [setN,if_true]
         exact ⟨hrow4,by omega⟩
       · simp only [setN,if_neg e]
         obtain ⟨h1,h2⟩:=hrows k (by omega)
         have:=h1.lt
         exact ⟨((h1.ext hE2).kp hk3 hC3 (by omega)).kp hk4 hC4 (by omega),h2⟩
     · have hl:∀ k,k < i→gs k < w1.heap.size:=fun k hk=>(hrows k hk).1.lt
       simp only [setN] at e
       split at e <;> split at e
       · omega
       · have:=hl k' (by omega); omega
       · have:=hl k (by omega); omega
       · exact hinj k k' (by omega) (by omega) e
   · refine gg ?_
     have:i = n:=by omega
     subst this
     exact ⟨gs,rfl,rfl,rfl,hE,hR,⟨hO.full,fun k hk=>(hrows k hk).1,fun k hk=>by have:=(hrows k hk).2; omega,hinj⟩,fun k hk=>(hrows k hk).2⟩
 clear hO2 hE hR2 hs2
 rintro f w1 ⟨gs,hf2,hf3,hf4,hE,hR,hW,hgs⟩
 rw [ui hf2,ui hf3,ui hf4]
 clear hf2 hf3 hf4
 refine gg ?_
 refine R1_call2 (small_ok 1 w1 (by omega) (by omega)) ?_
 rintro _ w2 ⟨hE2,x,y,rfl,hcv⟩
 refine gg ?_
 refine R1_alloc (.inl rfl) z_Int ?_
 intro w3 hB3 hE3 hs3
 have hL3:Bx w3 w2.heap.size 1 false 0:=Bx.zero false hB3
 obtain ⟨gL,hgL⟩ : ∃ g,g = w2.heap.size:=⟨_,rfl⟩
 rw [← hgL] at hL3 ⊢
 refine gg ?_
 refine R1_storeBx (.inl rfl) rfl rfl hL3 ((hcv.ext hE3).ev false (N:=N) (Bd.mono (N:=1) (show (1:Int).natAbs < B ^ 1 by decide) hN1)) ?_
 intro w4 hL4 hC4 hk4 hs4
 have hW2:=hW.ext hE2
 have hgsL:∀ k,k < n→gs k < gL:=fun k hk=>by have:=(hW2.row k hk).lt; omega
 have hOL:gO < gL:=by have:=hW2.lt; omega
 have hW4:=(hW2.ext hE3).kp hk4 hC4 (by omega) (fun k hk=>by have:=hgsL k hk; omega)
 have hR4:=((hR.ext hE2).ext hE3).kp hk4 hC4 (by omega)
 have hE4:Ext w w4:=hC4.ext_of (hE.trans (hE2.trans hE3)) (fun b hb=>by omega)
 have hgs2:∀ k,k < n→gO < gs k∧gs k < gL:=fun k hk=>⟨hgs k hk,hgsL k hk⟩
 clear hgsL hgs hW hW2 hR hE2 hE3 hcv hB3 hL3 hC4 hk4 hs4 hs3 hgL hE w1 w2 w3
 refine gg ?_
 refine W_seqM (fun f w'=>∃ neg last,f 2 = .pointer (some ⟨gR,0,none⟩)∧f 7 = .bool neg∧f 8 = .pointer (some ⟨gL,0,none⟩)∧Ext w w'∧Bx w' gR 1 true 0∧Bx w' gL (Nb N n) false last∧(if neg then -last else last) = detB n M) ?_ ?_
 · refine gg ?_
   refine W_loop (fun m f w'=>∃ k gs Mk neg last,m = n - k∧k≤n∧f 2 = .pointer (some ⟨gR,0,none⟩)∧f 3 = .int .i64 ((n:Nat):Int)∧f 4 = .slice (some ⟨gO,0,none⟩) n n∧f 7 = .bool neg∧f 8 = .pointer (some ⟨gL,0,none⟩)∧f 39 = .int .i64 ((n:Nat):Int)∧f 40 = .int .i64 ((k:Nat):Int) ∧
    Ext w w'∧Bx w' gR 1 true 0∧Bx w' gL (Nb N k) false last∧last ≠ 0∧WMat w' gO gs n n false (fun _ _=>Nb N k) Mk∧(∀ i,i < n→gO < gs i∧gs i < gL)∧detGo n (n - k) k Mk neg last = detB n M)
    n ⟨0,gs,M,false,1,rfl,Nat.zero_le _,rfl,rfl,rfl,rfl,rfl,rfl,rfl,hE4,hR4,hL4,by decide,hW4,hgs2,rfl⟩ ?_
   clear hE4 hR4 hL4 hW4 hgs2 w4 gs
   rintro m f w1 ⟨k,gs,Mk,neg,last,rfl,hk,hf2,hf3,hf4,hf7,hf8,hf39,hf40,hE,hR,hL,hl0,hW,hgs,hdet⟩
   rw [ui hf2,ui hf3,ui hf4,ui hf7,ui hf8,ui hf39,ui hf40]
   clear hf2 hf3 hf4 hf7 hf8 hf39 hf40
   have hNk:Nb N k < 68719476736:=Nb_big hN (by omega)
   by_cases hlt:k < n
   · refine gg ?_
     refine W_seqM (fun f w'=>∃ p,k≤p∧p≤n∧f 2 = .pointer (some ⟨gR,0,none⟩)∧f 3 = .int .i64 ((n:Nat):Int)∧f 4 = .slice (some ⟨gO,0,none⟩) n n∧f 7 = .bool neg∧f 8 = .pointer (some ⟨gL,0,none⟩)∧f 9 = .int .i64 ((k:Nat):Int)∧f 10 = .int .i64 ((p:Nat):Int)∧f 39 = .int .i64 ((n:Nat):Int)∧f 40 = .int .i64 ((k:Nat):Int)∧Ext w1 w'∧p = pivot n k Mk∧(p < n→Mk p k ≠ 0)) ?_ ?_
     · refine gg ?_
       refine W_loop (fun m f w'=>∃ p,m = n - p∧k≤p∧p≤n∧f 2 = .pointer (some ⟨gR,0,none⟩)∧f 3 = .int .i64 ((n:Nat):Int)∧f 4 = .slice (some ⟨gO,0,none⟩) n n∧f 7 = .bool neg∧f 8 = .pointer (some ⟨gL,0,none⟩)∧f 9 = .int .i64 ((k:Nat):Int)∧f 10 = .int .i64 ((p:Nat):Int)∧f 39 = .int .i64 ((n:Nat):Int)∧f 40 = .int .i64 ((k:Nat):Int)∧Ext w1 w'∧findP n k Mk (n - p) p = pivot n k Mk)
        (n - k) ⟨k,rfl,Nat.le_refl _,hk,rfl,rfl,rfl,rfl,rfl,rfl,rfl,rfl,rfl,Ext.refl _,rfl⟩ ?_
       rintro m f w2 ⟨p,rfl,hkp,hpn,hf2,hf3,hf4,hf7,hf8,hf9,hf10,hf39,hf40,hE2,hp⟩
       rw [ui hf2,ui hf3,ui hf4,ui hf7,ui hf8,ui hf9,ui hf10,ui hf39,ui hf40]
       clear hf2 hf3 hf4 hf7 hf8 hf9 hf10 hf39 hf40
       by_cases hpl:p < n
       · have hx:=(hW.ext hE2).at hpl
         obtain ⟨x,y,hx1,hx2,hv⟩:=((hW.ext hE2).row p hpl).at hlt
         refine W_seq ?_
         refine gg ?_
         refine R1_call2 (sign_ok _ _ _ _ w2 hv.1 (by omega)) ?_
         rintro _ w3 ⟨hE3,rfl⟩
         by_cases hz:Mk p k = 0
         · have hs:(Mk p k).sign = 0:=by rw [hz]; rfl
           refine gg ?_
           refine ⟨_,?_,p + 1,rfl,by omega,by omega,rfl,rfl,rfl,rfl,rfl,rfl,rfl,rfl,rfl,hE2.trans hE3,?_⟩
           · omega
           · rw [← findP_step ⟨hpl,hz⟩]; exact hp
         · have hs:¬ (Mk p k).sign = 0:=fun e=>hz (Int.sign_eq_zero_iff_zero.1 e)
           refine gg ?_
           refine ⟨p,hkp,hpn,rfl,rfl,rfl,rfl,rfl,rfl,rfl,rfl,rfl,hE2.trans hE3,?_,fun _=>hz⟩
           rw [← hp,findP_stop (fun h=>hz h.2)]
       · refine W_seq ?_
         refine gg ?_
         refine ⟨p,hkp,hpn,rfl,rfl,rfl,rfl,rfl,rfl,rfl,rfl,rfl,hE2,?_,fun h=>absurd h hpl⟩
         rw [← hp,findP_stop (fun h=>hpl h.1)]
     rintro f w2 ⟨p,hkp,hpn,hf2,hf3,hf4,hf7,hf8,hf9,hf10,hf39,hf40,hE2,hp,hpz⟩
     rw [ui hf2,ui hf3,ui hf4,ui hf7,ui hf8,ui hf9,ui hf10,ui hf39,ui hf40]
     clear hf2 hf3 hf4 hf7 hf8 hf9 hf10 hf39 hf40
     have hdet':=hdet
     rw [show n - k = (n - (k + 1)) + 1 by omega,detGo,← hp] at hdet'
     refine W_seq ?_
     by_cases hpn':p = n
     · rw [if_pos hpn'] at hdet'
       refine gg ?_
       refine R1_bld0 b0_Int ?_
       refine gg ?_
       refine R1_storeBx (N':=1) (.inl rfl) rfl rfl (hR.ext hE2) ((CV.zero w2).ev true (Bd.zero 1)) ?_
       intro w3 hR3 hC3 hk3 hs3
       refine gg ?_
       obtain ⟨x,y,hB,hv⟩:=hR3
       refine retC rfl agg_Int rfl hB ⟨hC3.ext_of (hE.trans hE2) (fun b hb=>by omega),x,y,rfl,?_⟩
       rw [← hdet']; exact hv.2 rfl
     rw [if_neg hpn'] at hdet'
     have hpl:p < n:=by omega
     have hE':=hE.trans hE2
     have hR':=hR.ext hE2
     have hL':=hL.ext hE2
     have hW':=hW.ext hE2
     clear hR hL hW hE hE2 hdet w1
     refine gg ?_
     refine W_seqM (fun f w'=>∃ gs',f 2 = .pointer (some ⟨gR,0,none⟩)∧f 3 = .int .i64 ((n:Nat):Int)∧f 4 = .slice (some ⟨gO,0,none⟩) n n∧f 7 = .bool (neg != decide (p ≠ k))∧f 8 = .pointer (some ⟨gL,0,none⟩)∧f 9 = .int .i64 ((k:Nat):Int)∧f 39 = .int .i64 ((n:Nat):Int)∧f 40 = .int .i64 ((k:Nat):Int) ∧
      Ext w w'∧Bx w' gR 1 true 0∧Bx w' gL (Nb N k) false last∧WMat w' gO gs' n n false (fun _ _=>Nb N k) (swp k p Mk)∧(∀ i,i < n→gO < gs' i∧gs' i < gL)) ?_ ?_
     · refine W_seq ?_
       by_cases hpk:p = k
       · refine gg ?_
         refine ⟨gs,rfl,rfl,rfl,?_,rfl,rfl,rfl,rfl,hE',hR',hL',?_,hgs⟩
         · show Value.bool neg = _
           simp [hpk]
         · rw [hpk,swp_self]; exact hW'
       · refine gg ?_
         refine W_seqD [(0,3),(1,3),(2,3),(3,3),(4,3),(5,3),(6,3),(7,0),(8,3),(9,3),(10,3),(11,0),(12,3),(13,2),(14,3),(15,2)] mixed (by kernel_rfl) (fun w3 hE3 _=>?_)
         have hW3:=hW'.ext hE3
         have hxp:=hW3.at hpl
         have hxk:=hW3.at hlt
         have hO3:=outer_full hW3.outer
         refine gg ?_
         refine R1_storeRow (one_of rfl) (.inl rfl) rfl rfl hO3 hlt ?_
         intro w4 ⟨hO4,_⟩ hC4 hk4 hs4
         refine gg ?_
         refine R1_storeRow (one_of rfl) (.inl rfl) rfl rfl hO4 hpl ?_
         intro w5 ⟨hO5,_⟩ hC5 hk5 hs5
         have hC45:=hC4.trans hC5
         have hk45:=hk4.trans hk5
         have e:setN (setN gs k (gs p)) p (gs k) = swp k p gs:=by
          funext i
          simp only [setN,swp]
          by_cases h1:i = p
          · rw [if_pos h1]
            by_cases h2:i = k
            · omega
            · rw [if_neg h2,if_pos h1]
          · rw [if_neg h1]
            by_cases h2:i = k
            · rw [if_pos h2,if_pos h2]
            · rw [if_neg h2,if_neg h2,if_neg h1]
         rw [e] at hO5
         have hW5:=hW3.swap hlt hpl hC45 hk45 hO5
         refine gg ?_
         refine ⟨swp k p gs,rfl,rfl,rfl,?_,rfl,rfl,rfl,rfl,hC45.ext_of (hE'.trans hE3) (fun b hb=>by omega),(hR'.ext hE3).kp hk45 hC45 (by omega),(hL'.ext hE3).kp hk45 hC45 (by omega),hW5,fun i hi=>?_⟩
         · show Value.bool (!neg) = _
           simp [hpk]
         · simp only [swp]
           split
           · exact hgs p hpl
           · split
             · exact hgs k hlt
             · exact hgs i hi
     clear hW' hL' hR' hE' hgs w2 gs
     rintro f w1 ⟨gs,hf2,hf3,hf4,hf7,hf8,hf9,hf39,hf40,hE,hR,hL,hW,hgs⟩
     rw [ui hf2,ui hf3,ui hf4,ui hf7,ui hf8,ui hf9,ui hf39,ui hf40]
     clear hf2 hf3 hf4 hf7 hf8 hf9 hf39 hf40
     obtain ⟨Ms,hMs⟩ : ∃ Ms,Ms = swp k p Mk:=⟨_,rfl⟩
     rw [← hMs] at hW hdet'
     have hpiv:Ms k k ≠ 0:=by rw [hMs]; simp only [swp,if_true]; exact hpz hpl
     have hx:=hW.at hlt
     obtain ⟨x,y,hx1,hx2,hv⟩:=(hW.row k hlt).at hlt
     refine gg ?_
     refine R1_alloc (.inl rfl) z_Int ?_
     intro w3 hB3 hE3 hs3
     have hP3:Bx w3 w1.heap.size 1 false 0:=Bx.zero false hB3
     obtain ⟨gP,hgP⟩ : ∃ g,g = w1.heap.size:=⟨_,rfl⟩
     rw [← hgP] at hP3 ⊢
     refine gg ?_
     refine R1_storeBx (.inl rfl) rfl rfl hP3 (hv.ext hE3) ?_
     intro w4 hP4 hC4 hk4 hs4
     have hLP:gL < gP:=by have:=hL.lt; omega
     have hE4:Ext w w4:=hC4.ext_of (hE.trans hE3) (fun b hb=>by have:=hE.size; omega)
     have hR4:=(hR.ext hE3).kp hk4 hC4 (by omega)
     have hL4:=(hL.ext hE3).kp hk4 hC4 (by omega)
     have hW4:=(hW.ext hE3).kp hk4 hC4 (by omega) (fun i hi=>by have:=hgs i hi; omega)
     have hRw:w.heap.size≤gR:=by omega
     clear hP3 hB3 hx hx1 hx2 hv hR hL hW hE hE3 hC4 hk4 hs4 hs3 hgP w1 w3
     refine gg ?_
     refine W_seqM (fun f w'=>f 2 = .pointer (some ⟨gR,0,none⟩)∧f 3 = .int .i64 ((n:Nat):Int)∧f 4 = .slice (some ⟨gO,0,none⟩) n n∧f 7 = .bool (neg != decide (p ≠ k))∧f 8 = .pointer (some ⟨gL,0,none⟩)∧f 11 = .pointer (some ⟨gP,0,none⟩)∧f 39 = .int .i64 ((n:Nat):Int)∧f 40 = .int .i64 ((k:Nat):Int) ∧
      Ext w w'∧Bx w' gR 1 true 0∧Bx w' gL (Nb N k) false last∧Bx w' gP (Nb N k) false (Ms k k)∧WMat w' gO gs n n false (fun _ _=>Nb N (k + 1)) (elim k last Ms)) ?_ ?_
     · refine gg ?_
       refine W_loop (fun m f w'=>∃ i,m = n - i∧k < i∧i≤n∧f 2 = .pointer (some ⟨gR,0,none⟩)∧f 3 = .int .i64 ((n:Nat):Int)∧f 4 = .slice (some ⟨gO,0,none⟩) n n∧f 7 = .bool (neg != decide (p ≠ k))∧f 8 = .pointer (some ⟨gL,0,none⟩)∧f 9 = .int .i64 ((k:Nat):Int)∧f 11 = .pointer (some ⟨gP,0,none⟩)∧f 12 = .int .i64 ((i:Nat):Int)∧f 39 = .int .i64 ((n:Nat):Int)∧f 40 = .int .i64 ((k:Nat):Int) ∧
        Ext w w'∧Bx w' gR 1 true 0∧Bx w' gL (Nb N k) false last∧Bx w' gP (Nb N k) false (Ms k k)∧WMat w' gO gs n n false (fun a b=>if k < a∧k < b∧a < i then Nb N (k + 1) else Nb N k) (fun a b=>if k < a∧k < b∧a < i then elim k last Ms a b else Ms a b))
        (n - (k + 1)) ⟨k + 1,rfl,by omega,by omega,rfl,rfl,rfl,rfl,rfl,rfl,rfl,rfl,rfl,rfl,hE4,hR4,hL4,hP4,hW4.congr (fun a b ha hb=>⟨by rw [if_neg (by omega)]; exact Nat.le_refl _,by rw [if_neg (by omega)]⟩)⟩ ?_
       clear hE4 hR4 hL4 hP4 hW4 w4
       rintro m f w1 ⟨i,rfl,hki,hin,hf2,hf3,hf4,hf7,hf8,hf9,hf11,hf12,hf39,hf40,hE,hR,hL,hP,hW⟩
       rw [ui hf2,ui hf3,ui hf4,ui hf7,ui hf8,ui hf9,ui hf11,ui hf12,ui hf39,ui hf40]
       clear hf2 hf3 hf4 hf7 hf8 hf9 hf11 hf12 hf39 hf40
       refine W_seq ?_
       by_cases hil:i < n
       · refine gg ?_
         refine W_loop (fun m f w'=>∃ j,m = n - j∧k < j∧j≤n∧f 2 = .pointer (some ⟨gR,0,none⟩)∧f 3 = .int .i64 ((n:Nat):Int)∧f 4 = .slice (some ⟨gO,0,none⟩) n n∧f 7 = .bool (neg != decide (p ≠ k))∧f 8 = .pointer (some ⟨gL,0,none⟩)∧f 9 = .int .i64 ((k:Nat):Int)∧f 11 = .pointer (some ⟨gP,0,none⟩)∧f 12 = .int .i64 ((i:Nat):Int)∧f 13 = .int .i64 ((j:Nat):Int)∧f 39 = .int .i64 ((n:Nat):Int)∧f 40 = .int .i64 ((k:Nat):Int) ∧
          Ext w w'∧Bx w' gR 1 true 0∧Bx w' gL (Nb N k) false last∧Bx w' gP (Nb N k) false (Ms k k)∧WMat w' gO gs n n false (fun a b=>if k < a∧k < b∧(a < i ∨ a = i∧b < j) then Nb N (k + 1) else Nb N k) (fun a b=>if k < a∧k < b∧(a < i ∨ a = i∧b < j) then elim k last Ms a b else Ms a b))
          (n - (k + 1)) ⟨k + 1,rfl,by omega,by omega,rfl,rfl,rfl,rfl,rfl,rfl,rfl,rfl,rfl,rfl,rfl,hE,hR,hL,hP,hW.congr (fun a b ha hb=>⟨?_,?_⟩)⟩ ?_
         · by_cases h1:k < a∧k < b∧a < i
           · rw [if_pos h1,if_pos (by omega)]; exact Nat.le_refl _
           · rw [if_neg h1,if_neg (by omega)]; exact Nat.le_refl _
         · by_cases h1:k < a∧k < b∧a < i
           · rw [if_pos h1,if_pos (by omega)]
           · rw [if_neg h1,if_neg (by omega)]
         clear hE hR hL hP hW w1
         rintro m f w1 ⟨j,rfl,hkj,hjn,hf2,hf3,hf4,hf7,hf8,hf9,hf11,hf12,hf13,hf39,hf40,hE,hR,hL,hP,hW⟩
         rw [ui hf2,ui hf3,ui hf4,ui hf7,ui hf8,ui hf9,ui hf11,ui hf12,ui hf13,ui hf39,ui hf40]
         clear hf2 hf3 hf4 hf7 hf8 hf9 hf11 hf12 hf13 hf39 hf40
         refine W_seq ?_
         by_cases hjl:j < n
         · refine gg ?_
           refine W_seqG [(0,0),(1,3),(2,3),(3,3),(4,0),(5,3),(6,3),(7,0),(9,3),(10,3),(11,3),(12,0),(13,3),(14,3),(15,0),(16,3),(17,3),(18,3),(19,0),(20,3),(21,3),(22,0)] [(8,[],[]),(25,[],[]),(23,[],[8]),(24,[],[8,23])] [(26,2)] mixed (by kernel_rfl) (fun w2 hE2 _=>?_)
           have hW2:=hW.ext hE2
           have hoi:=hW2.at hil
           have hok:=hW2.at hlt
           obtain ⟨px,py,hPB,hPv⟩:=hP.ext hE2
           obtain ⟨hp1,hp2⟩:=blkP hPB
           obtain ⟨x1,y1,hx1,hy1,hv1⟩:=(hW2.row i hil).at hjl
           obtain ⟨x2,y2,hx2,hy2,hv2⟩:=(hW2.row i hil).at hlt
           obtain ⟨x3,y3,hx3,hy3,hv3⟩:=(hW2.row k hlt).at hjl
           simp only at hv1 hv2 hv3
           rw [if_neg (by omega),if_neg (by omega)] at hv1 hv2 hv3
           refine gg ?_
           refine Rg_float [(8,[]),(23,[]),(24,[])] [fA 25 14 41 (.agg #[.bool false,.slice none 0 0])] [112,127,128,14] (by kernel_rfl) (fun a ha f' w' _ _=>by
            rcases List.mem_singleton.1 ha with rfl
            exact flt_alloc z_Int rfl f' w') ?_
           refine Rc_cons (fun w3 hE3=>?_)
           refine gg ?_
           refine R1_call1 (mul_ok _ _ _ _ _ _ (Nb N k) w3 (hPv.ext hE3).1 (hv1.ext hE3).1 (by omega)) ?_
           rintro _ w4 ⟨hE4,a1,b1,rfl,hc1⟩
           refine ⟨hE4,?_⟩
           refine gg ?_
           refine Rc_cons (fun w5 hE5=>?_)
           have hE35:=(hE3.trans hE4).trans hE5
           refine gg ?_
           refine R1_call1 (mul_ok _ _ _ _ _ _ (Nb N k) w5 (hv2.ext hE35).1 (hv3.ext hE35).1 (by omega)) ?_
           rintro _ w6 ⟨hE6,a2,b2,rfl,hc2⟩
           refine ⟨hE6,?_⟩
           refine gg ?_
           refine Rc_cons (fun w7 hE7=>?_)
           have m1:=(hPv.bd).mul hv1.bd
           have m2:=(hv2.bd).mul hv3.bd
           refine gg ?_
           refine R1_call1 (sub_ok _ _ _ _ _ _ (Nb N k + Nb N k) w7 ((hc1.ext ((hE5.trans hE6).trans hE7)).iv m1) ((hc2.ext hE7).iv m2) (by omega)) ?_
           rintro _ w8 ⟨hE8,a3,b3,rfl,hc3⟩
           refine ⟨hE8,?_⟩
           have m3:=m1.sub m2
           have e3:Nb N k + Nb N k + 1 = Nb N (k + 1):=by simp only [Nb]; omega
           rw [e3] at m3
           refine gg ?_
           refine Rc_nil (fun w9 hE9 bs hbs _=>?_)
           obtain ⟨hge,hBM⟩:=hbs _ List.mem_cons_self
           have hM9:Bx w9 (bs 14) 1 false 0:=Bx.zero false hBM
           have hge:w2.heap.size≤bs 14:=hge
           have hE29:Ext w2 w9:=hE35.trans (hE6.trans (hE7.trans (hE8.trans hE9)))
           show Ro _ _ _ _ _ _ (upd _ 14 (.pointer (some ⟨bs 14,0,none⟩))) _
           generalize bs 14 = gM at *
           refine gg ?_
           refine R1_storeBx (.inl rfl) rfl rfl hM9 ((hc3.ext hE9).ev false m3) ?_
           intro w10 hM10 hC10 hk10 hs10
           have hEw2:=hE.trans hE2
           have hw2:=hEw2.size
           have hlt1:=(hP.ext hE2).lt
           have hW10:=(hW2.ext hE29).kp hk10 hC10 (by have:=hW2.lt; omega) (fun a ha=>by have:=(hW2.row a ha).lt; omega)
           have hR10:=(hR.ext (hE2.trans hE29)).kp hk10 hC10 (by omega)
           have hL10:=(hL.ext (hE2.trans hE29)).kp hk10 hC10 (by omega)
           have hP10:=(hP.ext (hE2.trans hE29)).kp hk10 hC10 (by omega)
           have hE10:Ext w w10:=hC10.ext_of (hEw2.trans hE29) (fun b hb=>by omega)
           refine gg ?_
           refine W_regD [(0,3),(1,3),(2,3),(3,0),(4,3),(5,0),(6,0),(7,1),(8,3),(9,3),(10,3),(11,3),(12,3),(13,2)] mixed (by kernel_rfl) (fun w11 hE11 _=>?_)
           have hW11:=hW10.ext hE11
           have hoi:=hW11.at hil
           obtain ⟨mx,my,hMB,hMv⟩:=hM10.ext hE11
           obtain ⟨hm1,hm2⟩:=blkP hMB
           obtain ⟨lx,ly,hLB,hLv⟩:=hL10.ext hE11
           obtain ⟨hl1,hl2⟩:=blkP hLB
           have hNk1:Nb N (k + 1) < 68719476736:=Nb_big hN (by omega)
           refine gg ?_
           refine R1_call1 (divMod_ok _ _ _ _ _ _ (Nb N (k + 1)) w11 hMv.1 (hLv.mono (Nb_mono N k)).1 (by omega) hl0) ?_
           rintro _ w12 ⟨hE12,qx,qy,rx,ry,rfl,hq,hr⟩
           refine ⟨hE12,?_⟩
           refine gg ?_
           refine R1_storeE (.inl rfl) rfl rfl ((hW11.ext hE12).row i hil) hjl (hq.ev false (N:=Nb N (k + 1)) m3.ediv) ?_
           intro w13 hR13 hC13 hk13 hs13
           have hW13:=(hW11.ext hE12).put hil hR13 hC13 hk13
           have hgi:=hgs i hil
           refine gg ?_
           refine ⟨_,?_,j + 1,rfl,by omega,by omega,rfl,rfl,rfl,rfl,rfl,rfl,rfl,rfl,rfl,rfl,rfl,hC13.ext_of (hE10.trans (hE11.trans hE12)) (fun b hb=>by omega),(hR10.ext (hE11.trans hE12)).kp hk13 hC13 (by omega),(hL10.ext (hE11.trans hE12)).kp hk13 hC13 (by omega),(hP10.ext (hE11.trans hE12)).kp hk13 hC13 (by omega),hW13.congr (fun a b ha hb=>⟨?_,?_⟩)⟩
           · omega
           · simp only [set2]
             by_cases e:a = i∧b = j
             · rw [if_pos e,if_pos (by omega)]; exact Nat.le_refl _
             · rw [if_neg e]
               by_cases h1:k < a∧k < b∧(a < i ∨ a = i∧b < j)
               · rw [if_pos h1,if_pos (by omega)]; exact Nat.le_refl _
               · rw [if_neg h1,if_neg (by omega)]; exact Nat.le_refl _
           · simp only [set2]
             by_cases e:a = i∧b = j
             · obtain ⟨rfl,rfl⟩:=e
               rw [if_pos ⟨rfl,rfl⟩,if_pos (by omega),elim,if_pos ⟨hki,hkj⟩]
             · rw [if_neg e]
               by_cases h1:k < a∧k < b∧(a < i ∨ a = i∧b < j)
               · rw [if_pos h1,if_pos (by omega)]
               · rw [if_neg h1,if_neg (by omega)]
         · refine gg ?_
           refine ⟨_,?_,i + 1,rfl,by omega,by omega,rfl,rfl,rfl,rfl,rfl,rfl,rfl,rfl,rfl,rfl,hE,hR,hL,hP,hW.congr (fun a b ha hb=>⟨?_,?_⟩)⟩
           · omega
           · by_cases h1:k < a∧k < b∧a < i + 1
             · rw [if_pos (by omega),if_pos h1]; exact Nat.le_refl _
             · rw [if_neg (by omega),if_neg h1]; exact Nat.le_refl _
           · by_cases h1:k < a∧k < b∧a < i + 1
             · rw [if_pos (by omega),if_pos h1]
             · rw [if_neg (by omega),if_neg h1]
       · refine gg ?_
         refine ⟨rfl,rfl,rfl,rfl,rfl,rfl,rfl,rfl,hE,hR,hL,hP,hW.congr (fun a b ha hb=>⟨?_,?_⟩)⟩
         · have:=Nb_mono N k
           split <;> omega
         · by_cases h1:k < a∧k < b∧a < i
           · rw [if_pos h1]
           · rw [if_neg h1,elim,if_neg (by omega)]
     · clear hE4 hR4 hL4 hP4 hW4 w4
       rintro f w1 ⟨hf2,hf3,hf4,hf7,hf8,hf11,hf39,hf40,hE,hR,hL,hP,hW⟩
       rw [ui hf2,ui hf3,ui hf4,ui hf7,ui hf8,ui hf11,ui hf39,ui hf40]
       clear hf2 hf3 hf4 hf7 hf8 hf11 hf39 hf40
       obtain ⟨x,y,hPB,hPv⟩:=hP
       obtain ⟨hx1,hx2⟩:=blkP hPB
       refine gg ?_
       refine R1_storeBx (.inl rfl) rfl rfl hL (hPv.mono (Nb_mono N k)) ?_
       intro w2 hL2 hC2 hk2 hs2
       refine gg ?_
       refine ⟨_,?_,k + 1,gs,elim k last Ms,neg != decide (p ≠ k),Ms k k,rfl,by omega,rfl,rfl,rfl,rfl,rfl,rfl,rfl,hC2.ext_of hE (fun b hb=>by omega),hR.kp hk2 hC2 (by omega),hL2,hpiv,hW.kp hk2 hC2 (by omega) (fun i hi=>by have:=hgs i hi; omega),hgs,hdet'⟩
       omega
   · refine gg ?_
     have:k = n:=by omega
     subst this
     rw [Nat.sub_self,detGo] at hdet
     exact ⟨neg,last,rfl,rfl,rfl,hE,hR,hL,hdet⟩
 clear hE4 hR4 hL4 hW4 hgs2 w4 gs
 rintro f w1 ⟨neg,last,hf2,hf7,hf8,hE,hR,hL,hdet⟩
 rw [ui hf2,ui hf7,ui hf8]
 clear hf2 hf7 hf8
 have hNn:Nb N n < 68719476736:=Nb_big hN hn2
 obtain ⟨x,y,hLB,hLv⟩:=hL
 obtain ⟨hx1,hx2⟩:=blkP hLB
 refine W_seq ?_
 cases neg with
 | true =>
  refine gg ?_
  refine R1_call2 (neg_ok _ _ _ _ w1 hLv.1 (by omega)) ?_
  rintro _ w2 ⟨hE2,x',y',rfl,hcv⟩
  refine gg ?_
  refine R1_storeBx (N':=Nb N n) (.inl rfl) rfl rfl (hR.ext hE2) (hcv.ev true hLv.bd.neg) ?_
  intro w3 hR3 hC3 hk3 hs3
  refine gg ?_
  obtain ⟨x,y,hB,hv⟩:=hR3
  refine retC rfl agg_Int rfl hB ⟨hC3.ext_of (hE.trans hE2) (fun b hb=>by omega),x,y,rfl,?_⟩
  rw [← hdet]; exact hv.2 rfl
 | false =>
  refine gg ?_
  refine R1_call2 (normalize_ok _ _ _ _ w1 hLv.1 (by omega)) ?_
  rintro _ w2 ⟨hE2,x',y',rfl,hcv⟩
  refine gg ?_
  refine R1_storeBx (N':=Nb N n) (.inl rfl) rfl rfl (hR.ext hE2) (hcv.ev true hLv.bd) ?_
  intro w3 hR3 hC3 hk3 hs3
  refine gg ?_
  obtain ⟨x,y,hB,hv⟩:=hR3
  refine retC rfl agg_Int rfl hB ⟨hC3.ext_of (hE.trans hE2) (fun b hb=>by omega),x,y,rfl,?_⟩
  rw [← hdet]; exact hv.2 rfl
end Go.Proofs.YtncbjgblcofddaaGreatDoor
