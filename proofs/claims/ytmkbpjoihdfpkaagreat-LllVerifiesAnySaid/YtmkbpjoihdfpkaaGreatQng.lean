/- Joined: Llm, Lln, Llo, Rlp. -/
import Derived.Test.YtmkbpjoihdfpkaaGreatQnf
/- lll: what the state holds (plain part of run). -/
namespace Go.Det
section
variable {n:Nat} {T V G:Mt}
theorem LI.up {k:Nat} {D B B':Int} (h:LI n k G T D B) (hB:B≤B'):LI n k G T D B':=⟨h.uni,h.pos,h.red,h.dle,fun i hi=>Int.le_trans (h.nle i hi) hB⟩
def PJ (n p:Nat) (T G:Mt) (E:Int) (a b c f0 f1 g0 g1:Int):Prop :=
 ∃ V,PI n p T V G f0 f1 g0 g1∧PN n p V G a b c∧PA (det (p + 1) (gr n T G)) (bm p (gr n T G) (p + 1) p) (bm p (gr n T G) (p + 1) (p + 1)) a b c f0 f1 g0 g1∧0 < a∧0 < c ∧
  (a < det (p + 1) (gr n T G) ∨ (a = det (p + 1) (gr n T G)∧c = bm p (gr n T G) (p + 1) (p + 1)))∧2 * b≤a∧-(2 * b)≤a∧c≤E
theorem PJ.start {p:Nat} {E:Int} (hG:Sy n G) (hp:PM n (gr n T G)) (hpn:p + 1 < n) (h1:2 * bm p (gr n T G) (p + 1) p≤det (p + 1) (gr n T G)) (h2:-(2 * bm p (gr n T G) (p + 1) p)≤det (p + 1) (gr n T G)) (hE:bm p (gr n T G) (p + 1) (p + 1)≤E) :
 PJ n p T G E (det (p + 1) (gr n T G)) (bm p (gr n T G) (p + 1) p) (bm p (gr n T G) (p + 1) (p + 1)) 1 0 0 1 :=
 ⟨T,PI.start n p T G,⟨by rw [bm_self],rfl,rfl⟩,PA.start _ _ _,hp _ (by omega),diag_pos (gr_tr hG) hp hpn 1 p (by omega),.inr ⟨rfl,rfl⟩,h1,h2,hE⟩
theorem PJ.step {p:Nat} {E D:Int} (hG:Sy n G) (hp:PM n (gr n T G)) (hpn:p + 1 < n) (hD:∀ m,m≤n→det m (gr n T G)≤D) (hE:D * D + D≤E) {a b c f0 f1 g0 g1:Int} (h:PJ n p T G E a b c f0 f1 g0 g1) (hu:4 * c < 3 * a) :
 PJ n p T G E c (b - nearZ b c * c) (a - nearZ b c * (b + (b - nearZ b c * c))) g0 g1 (f0 - nearZ b c * g0) (f1 - nearZ b c * g1):=by
 obtain ⟨V,hI,hN,hA,ha,hc,hle,hb1,hb2,hcE⟩:=h
 have hI':=(hI.swap hpn).sub (nearZ b c)
 have hN':=(hN.swap hG).sub hG (nearZ b c)
 have hA':=hA.swap.sub (nearZ b c)
 have hs:=nearZ_sized (a:=b) hc
 have d0:=hp p (by omega)
 have d2:=hp (p + 2) (by omega)
 have hdv:=hI'.dm p (by omega)
 have hdv2:=hI'.dm (p + 2) (by omega)
 have hdisc:=hN'.disc hG (by rw [hdv]; omega)
 rw [hdv,hdv2] at hdisc
 obtain ⟨b',hb'⟩ : ∃ b',b' = b - nearZ b c * c:=⟨_,rfl⟩
 obtain ⟨c',hc'⟩ : ∃ c',c' = a - nearZ b c * (b + b'):=⟨_,rfl⟩
 rw [← hb'] at hN' hA' hs hdisc ⊢
 rw [← hc'] at hN' hA' hdisc ⊢
 have hdd:=Int.mul_pos d0 d2
 have hsq:=sq_nonneg b'
 have hc1:0 < c':=Int.pos_of_mul_pos_right (show 0 < c * c' by omega) hc
 have hle':=plane_c hc (Int.le_of_lt hdd) hdisc hs.1 hs.2
 have hD0:=hD p (by omega)
 have hD2:=hD (p + 2) (by omega)
 have hD1:=hD (p + 1) (by omega)
 have hm:det p (gr n T G) * det (p + 2) (gr n T G)≤D * D:=Int.mul_le_mul hD0 hD2 (by omega) (by omega)
 have hca:c < det (p + 1) (gr n T G):=by omega
 exact ⟨_,hI',hN',hA',hc,hc1,.inl hca,hs.1,hs.2,by omega⟩
theorem PJ.bound {p:Nat} {E D:Int} (hG:Sy n G) (hp:PM n (gr n T G)) (hpn:p + 1 < n) (hD:∀ m,m≤n→det m (gr n T G)≤D) (hDE:D≤E) (hC:bm p (gr n T G) (p + 1) (p + 1)≤E) {a b c f0 f1 g0 g1:Int} (h:PJ n p T G E a b c f0 f1 g0 g1) :
 a.natAbs≤E.natAbs∧b.natAbs≤E.natAbs∧c.natAbs≤E.natAbs∧f0.natAbs≤E.natAbs∧f1.natAbs≤E.natAbs∧g0.natAbs≤E.natAbs∧g1.natAbs≤E.natAbs:=by
 obtain ⟨V,hI,hN,hA,ha,hc,hle,hb1,hb2,hcE⟩:=h
 have d0:=hp p (by omega)
 have d1:=hp (p + 1) (by omega)
 have d2:=hp (p + 2) (by omega)
 have hD1:=hD (p + 1) (by omega)
 have hdd:=Int.mul_pos d0 d2
 have hs:=step_diag (gr_tr hG (T:=T)) (show det p (gr n T G) ≠ 0 by omega) (p + 1)
 rw [bm_self,show p + 1 + 1 = p + 2 from rfl] at hs
 have hCp:=diag_pos (gr_tr hG (T:=T)) hp hpn 1 p (by omega)
 have hco:=hA.coef (E:=E) (by omega) d1 hCp (by omega) (by omega) (by omega) hC (by omega) hcE
 exact ⟨by omega,by omega,by omega,hco.1,hco.2.1,hco.2.2.1,hco.2.2.2⟩
end
end Go.Det
namespace Go.Proofs.YtmkbpjoihdfpkaaGreat
open Go Go.Eng Go.Num Go.Proofs
open Go.Det (nearZ gr bm det Sy PM rop opS LI SI PJ PI PN)
def dH (n:Nat) (G T:Nat→Nat→Int):Nat→Int:=fun m=>det m (gr n T G)
def lH (n:Nat) (G T:Nat→Nat→Int):Nat→Nat→Int:=fun i c=>bm c (gr n T G) i c
theorem subRow_rop (T:Nat→Nat→Int) (q:Int) (i j:Nat):subRow T q i j = rop q i j T:=by
 funext a c
 simp only [subRow,rop,Go.Det.setR]
theorem dH_rop {n:Nat} {G T:Nat→Nat→Int} {q:Int} {i j:Nat} (hj:j < i) (m:Nat):dH n G (rop q i j T) m = dH n G T m:=by
 unfold dH; rw [Go.Det.gr_rop,Go.Det.det_opS q _ hj]
theorem lH_rop {n:Nat} {G T:Nat→Nat→Int} {q:Int} {i j:Nat} (hG:Sy n G) (hj:j < i) {a c:Nat} (hc:c < a):subLam (dH n G T) (lH n G T) q i j a c = lH n G (rop q i j T) a c:=by
 unfold lH subLam dH
 rw [Go.Det.gr_rop,Go.Det.lam_opS (Go.Det.gr_tr hG) hj hc]
 by_cases e:a = i
 · rw [if_pos e,if_pos e]
   by_cases e1:c < j
   · rw [if_pos e1,if_pos e1]
   · rw [if_neg e1,if_neg e1]
     by_cases e2:c = j
     · rw [if_pos e2,if_pos e2,e2]
     · rw [if_neg e2,if_neg e2]
 · rw [if_neg e,if_neg e]
section
variable {n k:Nat} {G T V:Nat→Nat→Int} {f0 f1 g0 g1 a b c:Int}
theorem impT_eq (hk:1≤k) (h:PI n (k - 1) T V G f0 f1 g0 g1) (i q:Nat):impT T k f0 f1 g0 g1 i q = V i q:=by
 have ek:k - 1 + 1 = k:=by omega
 have r0:=h.row0 q
 have r1:=h.row1 q
 rw [ek] at r0 r1
 unfold impT
 by_cases e:i = k - 1
 · rw [if_pos e,e]; exact r0.symm
 · rw [if_neg e]
   by_cases e1:i = k
   · rw [if_pos e1,e1]; exact r1.symm
   · rw [if_neg e1,h.other i e (by omega)]
theorem dH_imp (hk:1≤k) (h:PI n (k - 1) T V G f0 f1 g0 g1) (hN:PN n (k - 1) V G a b c) (m:Nat):setZ (dH n G T) k a m = dH n G V m:=by
 simp only [setZ]
 unfold dH
 by_cases e:m = k
 · rw [if_pos e,e,← hN.pa,Go.Det.bm_self,show k - 1 + 1 = k by omega]
 · rw [if_neg e,h.dm m (by omega)]
theorem impL_eq (hG:Sy n G) (hk:1≤k) (h:PI n (k - 1) T V G f0 f1 g0 g1) (hN:PN n (k - 1) V G a b c) (hd:det (k - 1) (gr n T G) ≠ 0) (hd1:det k (gr n T G) ≠ 0) {i q:Nat} (hq:q < i) :
 impL (dH n G T) (lH n G T) k (det k (gr n T G)) (bm (k - 1) (gr n T G) k (k - 1)) a b f0 f1 g0 g1 i q = lH n G V i q:=by
 have ek:k - 1 + 1 = k:=by omega
 have ek2:k - 1 + 2 = k + 1:=by omega
 have hl0:=h.l0
 have hl1:=h.l1
 have hlo:=h.lo
 have hhi:=h.hi
 rw [ek,ek2] at hl1
 rw [ek,ek2] at hl0
 rw [ek2] at hlo hhi
 unfold impL lH
 by_cases e:i = k - 1
 · rw [if_pos e,e,hl0 q q (by omega) (by omega)]
 · rw [if_neg e]
   by_cases e1:i = k
   · rw [if_pos e1]
     by_cases e2:q < k - 1
     · rw [if_pos e2,e1,hl1 q q (by omega) (by omega)]
     · rw [if_neg e2,e1,show q = k - 1 by omega]
       have:=hN.pb
       rw [ek] at this
       exact this.symm
   · rw [if_neg e1]
     by_cases e3:k < i
     · rw [if_pos e3]
       have hy:impY (dH n G T) (lH n G T) k (det k (gr n T G)) (bm (k - 1) (gr n T G) k (k - 1)) i = bm (k - 1) (gr n T G) i k:=by
        unfold impY dH lH
        have hs:=Go.Det.step_any (Go.Det.gr_tr hG (T:=T)) hd i k
        rw [ek] at hs
        rw [show det (k - 1) (gr n T G) * bm k (gr n T G) i k + bm (k - 1) (gr n T G) i (k - 1) * bm (k - 1) (gr n T G) k (k - 1) = det k (gr n T G) * bm (k - 1) (gr n T G) i k by omega]
        exact Int.mul_ediv_cancel_left _ hd1
       have hx':bm (k - 1) (gr n V G) i (k - 1) = f0 * bm (k - 1) (gr n T G) i (k - 1) + f1 * bm (k - 1) (gr n T G) i k:=by
        rw [Go.Det.bm_symm (Go.Det.gr_tr hG),hl0 (k - 1) i (Nat.le_refl _) (by omega),Go.Det.bm_symm (Go.Det.gr_tr hG) (k - 1) (k - 1) i,Go.Det.bm_symm (Go.Det.gr_tr hG) (k - 1) k i]
       have hy':bm (k - 1) (gr n V G) i k = g0 * bm (k - 1) (gr n T G) i (k - 1) + g1 * bm (k - 1) (gr n T G) i k:=by
        rw [Go.Det.bm_symm (Go.Det.gr_tr hG),hl1 (k - 1) i (Nat.le_refl _) (by omega),Go.Det.bm_symm (Go.Det.gr_tr hG) (k - 1) (k - 1) i,Go.Det.bm_symm (Go.Det.gr_tr hG) (k - 1) k i]
       have hy2:impY (dH n G T) (fun i c=>bm c (gr n T G) i c) k (det k (gr n T G)) (bm (k - 1) (gr n T G) k (k - 1)) i = bm (k - 1) (gr n T G) i k:=hy
       rw [hy2]
       by_cases e4:q = k - 1
       · rw [if_pos e4,e4,hx']
       · rw [if_neg e4]
         by_cases e5:q = k
         · rw [if_pos e5,e5]
           have hdv:det (k - 1) (gr n V G) = det (k - 1) (gr n T G):=h.dm (k - 1) (by omega)
           have hs:=Go.Det.step_any (Go.Det.gr_tr hG (T:=V)) (show det (k - 1) (gr n V G) ≠ 0 by rw [hdv]; exact hd) i k
           have hda:det k (gr n V G) = a:=by rw [← hN.pa,Go.Det.bm_self,ek]
           have hpb:=hN.pb
           rw [ek] at hs hpb
           rw [hda,hpb,hdv,hx',hy'] at hs
           have e6:lH n G T i (k - 1) = bm (k - 1) (gr n T G) i (k - 1):=rfl
           rw [show dH n G T (k - 1) = det (k - 1) (gr n T G) from rfl]
           rw [show a * (g0 * bm (k - 1) (gr n T G) i (k - 1) + g1 * bm (k - 1) (gr n T G) i k) - b * (f0 * bm (k - 1) (gr n T G) i (k - 1) + f1 * bm (k - 1) (gr n T G) i k) = det (k - 1) (gr n T G) * bm k (gr n V G) i k by rw [hs]; grind]
           exact Int.mul_ediv_cancel_left _ hd
         · rw [if_neg e5]
           by_cases e6:q < k - 1
           · rw [hlo q i q (by omega) (by omega) (by omega)]
           · rw [hhi q i q (by omega) (by omega) (Nat.le_refl _)]
     · rw [if_neg e3,hlo q i q (by omega) (by omega) (by omega)]
end
end Go.Proofs.YtmkbpjoihdfpkaaGreat
namespace Go.Proofs.YtmkbpjoihdfpkaaGreat
open Go Go.Eng Go.Num Go.Proofs
open Go.Det (nearZ gr bm det Sy PM rop opS LI SI PJ PI PN pot)
section
variable {P:Program} {n:Nat} {S:World→World→Prop} {k:Nat} {K:Fr→World→Prop} {f:Fr} {w:World} {d ty t:Nat} {x y:Operand} {pos:String} {aft:Array Edge} {gd:Option (Nat × Bool)}
theorem R1_callm2 {g:FuncId} {x a0 a1:Operand} {ats:Array TypeId} {v0 v1 v2:Value} {post:Value→World→Prop}
 (h0:k = 2 ∨ k = 1) (hx:ev n f x = .func (.func g) #[v0] #[]) (e0:ev n f a0 = v1) (e1:ev n f a1 = v2) (hc:Meets P g #[v0,v1,v2] w post)
 (h:∀ v w',post v w'→(k = 1→S w w')∧K (upd f d v) w'):R1 P n S k ⟨some d,.call { callee:=.value x,args:=#[a0,a1],argTypes:=ats },ty,pos,aft,gd⟩ K f w :=
 R1_callv h0 hx (by simp [e0,e1]) hc h
theorem R1_max1 {b:Nat} {ats:Array TypeId} (hy:ev n f y = .int .i64 ((b:Nat):Int)) (h:K (upd f d (.int .i64 ((Nat.max 1 b:Nat):Int))) w):R1 P n S k ⟨some d,.call { callee:=.builtin .max,args:=#[.const (.int .i64 1),y],argTypes:=ats },ty,pos,aft,gd⟩ K f w:=by
 refine R1_pure (v:=.int .i64 ((Nat.max 1 b:Nat):Int)) (fun w=>?_) h
 have e3:(if ((b:Nat):Int) > 1 then ((b:Nat):Int) else 1) = ((Nat.max 1 b:Nat):Int):=by
  have:Nat.max 1 b = if b > 1 then b else 1:=by
   show Max.max 1 b = _
   split <;> omega
  rw [this]
  split <;> split <;> omega
 have hk1:ev n f (.const (.int .i64 1)) = .int .i64 1:=rfl
 simp [execOp,resolve,invoke,builtin,Builtin.max_,Builtin.max2,hy,hk1,e3]
end
structure RunB (n N:Nat) (G:Nat→Nat→Int) (D B Bs E:Int):Prop where
 sy:Sy n G
 De:D * D + D≤E
 Dl:D≤E
 C9:D * (9 * D)≤E
 B9:9 * D≤B
 BE:D + 8 * (2 * E * (2 * E) * D)≤B
 Bl:B≤Bs
 Bu:∀ t:Nat,t≤8→D + 8 * ((2 ^ t * (D * B + 1) - 1) * (2 ^ t * (D * B + 1) - 1) * D)≤Bs
 bT:∀ k T,LI n k G T D Bs→∀ i c,i < n→c < n→Bd N (T i c)
 bL:∀ k T,LI n k G T D Bs→∀ i c,c < i→i < n→Bd N (bm c (gr n T G) i c)
 bE:∀ z:Int,z.natAbs≤E.natAbs→Bd N z
theorem RunB.pstep {n N k p:Nat} {G T:Nat→Nat→Int} {D B Bs E:Int} (h:RunB n N G D B Bs E) (hL:LI n k G T D Bs) (hpn:p + 1 < n) (hC:bm p (gr n T G) (p + 1) (p + 1)≤E):PStep (PJ n p T G E) N where
 step:=fun a b c f0 f1 g0 g1 hj hu=>hj.step h.sy hL.pos hpn hL.dle h.De hu
 pos:=fun a b c f0 f1 g0 g1 hj=>by
  obtain ⟨V,_,_,_,ha,hc,_⟩:=hj
  exact ⟨ha,hc⟩
 bd:=fun a b c f0 f1 g0 g1 hj=>by
  obtain ⟨h1,h2,h3,h4,h5,h6,h7⟩:=hj.bound h.sy hL.pos hpn hL.dle h.Dl hC
  exact ⟨h.bE _ h1,h.bE _ h2,h.bE _ h3,h.bE _ h4,h.bE _ h5,h.bE _ h6,h.bE _ h7⟩
set_option maxHeartbeats 64000000 in
theorem run_ok (I:Ids) (n N gS:Nat) (G T0:Nat→Nat→Int) (D B Bs E:Int) (w:World) (hS:StB w I n N (dH n G T0) (lH n G T0) T0) (hI:I.ok n) (hgS:I.gS = gS) (hn1:1≤n) (hn:n≤8) (hN1:1≤N) (hN:N < 1000000) (hR:RunB n N G D B Bs E) (hL:LI n 1 G T0 D B) :
 Meets Tryz.prog 57 #[.pointer (some ⟨gS,0,none⟩)] w fun v w'=>v = .tuple #[]∧Ch (StMod I n) w w'∧Kp w w'∧∃ T,StB w' I n N (dH n G T) (lH n G T) T∧LI n n G T D B:=by
 refine fn_W (n:=39) Tryz.func57 rfl rfl (by kernel_rfl) (by simp) ?_
 subst hgS
 have hltS:∀ b,StBlk I n b→b < w.heap.size:=fun b hb=>hS.blk hb
 have hG:=hR.sy
 refine gh ?_
 refine W_loop (fun m f w'=>∃ k T,m = pot (gr n T G) n * 16 + (n - k)∧1≤k∧k≤n∧f 0 = .pointer (some ⟨I.gS,0,none⟩)∧f 2 = .int .i64 ((k:Nat):Int)∧Ch (StMod I n) w w'∧Kp w w'∧StB w' I n N (dH n G T) (lH n G T) T∧LI n k G T D B)
  (pot (gr n T0 G) n * 16 + (n - 1)) ⟨1,T0,rfl,Nat.le_refl _,hn1,rfl,rfl,Ch.refl _ _,Kp.refl _,hS,hL⟩ ?_
 clear hS hL
 rintro m f w1 ⟨k,T1,rfl,hk1,hkn,hf0,hf2,hM,hK,hS,hL⟩
 rw [ui hf0,ui hf2]
 clear hf0 hf2
 refine W_seq ?_
 have e2:=hS.c2
 by_cases hk:k < n
 rotate_left
 · obtain rfl:k = n:=by omega
   refine gh ?_
   exact ret0 rfl ⟨rfl,hM,hK,T1,hS,hL⟩
 refine gh ?_
 clear e2
 have hDB:0≤D * B:=by
  have h1:=hL.D1
  have h2:=hL.npos hG (show 0 < n by omega)
  have h3:=hL.nle 0 (by omega)
  exact Int.mul_nonneg (by omega) (by omega)
 refine W_seqM (fun f w'=>∃ T,f 0 = .pointer (some ⟨I.gS,0,none⟩)∧f 2 = .int .i64 ((k:Nat):Int)∧Ch (StMod I n) w w'∧Kp w w'∧StB w' I n N (dH n G T) (lH n G T) T∧LI n k G T D B∧(∃ U,SI n k 0 (gr n T G) U)∧pot (gr n T G) n = pot (gr n T1 G) n) ?_ ?_
 · refine gh ?_
   refine W_loop (fun m f w'=>∃ (jj:Nat) (T:Nat→Nat→Int),m = jj∧jj≤k∧f 0 = .pointer (some ⟨I.gS,0,none⟩)∧f 2 = .int .i64 ((k:Nat):Int)∧f 3 = .int .i64 ((jj:Int) - 1)∧Ch (StMod I n) w w'∧Kp w w'∧StB w' I n N (dH n G T) (lH n G T) T∧LI n k G T D Bs∧SI n k jj (gr n T G) (2 ^ (k - jj) * (D * B + 1) - 1)∧(∀ i,i < n→i ≠ k→gr n T G i i≤B)∧pot (gr n T G) n = pot (gr n T1 G) n)
    k ⟨k,T1,rfl,Nat.le_refl _,rfl,rfl,?_,hM,hK,hS,hL.up hR.Bl,?_,fun i hi _=>hL.nle i hi,rfl⟩ ?_
   · show Value.int .i64 ((k - 1:Nat):Int) = _
     rw [show ((k - 1:Nat):Int) = (k:Int) - 1 by omega]
   · have:=hL.si hG hk
     rw [Nat.sub_self,Int.pow_zero,Int.one_mul,show D * B + 1 - 1 = D * B by omega]
     exact this
   clear hS hM hK
   rintro m f w2 ⟨jj,T,rfl,hjk,hf0,hf2,hf3,hM,hK,hS,hL2,hSI,hnl,hpot⟩
   rw [ui hf0,ui hf2,ui hf3]
   clear hf0 hf2 hf3
   refine W_seq ?_
   have hU0:0≤2 ^ (k - m) * (D * B + 1) - 1:=by
    have h1:(1:Int)≤2 ^ (k - m):=by
     have:0 < (2:Nat) ^ (k - m):=Nat.pow_pos (by decide)
     exact_mod_cast this
    have:=Int.mul_le_mul h1 (show (1:Int)≤D * B + 1 by omega) (by omega) (by omega)
    omega
   by_cases hz:m = 0
   · subst hz
     refine gh ?_
     have hsh:=hSI.short hG hL2.pos hL2.dle hk hn
     refine ⟨T,rfl,rfl,hM,hK,hS,⟨hL2.uni,hL2.pos,hL2.red,hL2.dle,fun i hi=>?_⟩,⟨_,hSI⟩,hpot⟩
     by_cases e:i = k
     · subst e; exact Int.le_trans hsh hR.B9
     · exact hnl i hi e
   obtain ⟨j,rfl⟩ : ∃ j,m = j + 1:=⟨m - 1,by omega⟩
   rw [show ((j + 1:Nat):Int) - 1 = ((j:Nat):Int) by omega]
   obtain ⟨q,hq⟩ : ∃ q,q = nearZ (lH n G T k j) (dH n G T (j + 1)):=⟨_,rfl⟩
   have hpj:0 < dH n G T (j + 1):=hL2.pos (j + 1) (by omega)
   have hUe:2 * (2 ^ (k - (j + 1)) * (D * B + 1) - 1) + 1 = 2 ^ (k - j) * (D * B + 1) - 1:=by
    rw [show k - j = (k - (j + 1)) + 1 by omega,Int.pow_succ]; grind
   have hst:=hSI.step (Go.Det.gr_tr hG) hL2.pos hU0 hk (show j < k by omega)
   rw [hUe,← Go.Det.gr_rop] at hst
   have hq':nearZ (bm j (gr n T G) k j) (det (j + 1) (gr n T G)) = q:=hq.symm
   rw [hq'] at hst
   have hposr:PM n (gr n (rop q k j T) G):=by rw [Go.Det.gr_rop]; exact hL2.pos.opS (by omega)
   have hdler:∀ m,m≤n→det m (gr n (rop q k j T) G)≤D:=fun m hm=>by rw [Go.Det.gr_rop,Go.Det.det_opS q _ (by omega)]; exact hL2.dle m hm
   have hUr:0≤2 ^ (k - j) * (D * B + 1) - 1:=by omega
   have hnr:=hst.norm hG hposr hdler hUr hk
   have hLr:LI n k G (rop q k j T) D Bs:=hL2.sub hG q (by omega) hk (Nat.le_refl _) (Int.le_refl _) (by
    refine Int.le_trans hnr (Int.le_trans ?_ (hR.Bu (k - j) (by omega)))
    have h1:0≤(2 ^ (k - j) * (D * B + 1) - 1) * (2 ^ (k - j) * (D * B + 1) - 1) * D:=Int.mul_nonneg (Go.Det.sq_nonneg _) (by have:=hL2.D1; omega)
    have:=Int.mul_le_mul_of_nonneg_right (show (k:Int)≤8 by omega) h1
    omega)
   refine gh ?_
   refine R1_fieldAddr fa_St3 rfl ?_
   refine gh ?_
   refine R1_load1F (by decide) one_fn rfl hS.c3 ?_
   refine gh ?_
   refine R1_callm2 (.inl rfl) rfl rfl rfl (subtractNearest_ok I n N k j I.gS (dH n G T) (lH n G T) T w2 hS hI rfl hk (by omega) hn (by omega) hpj (fun _ c hc=>?_) (fun _ c hc=>?_)) ?_
   · rw [← hq]
     have:=hR.bT _ _ hLr k c hk hc
     simp only [rop,Go.Det.setR,if_true] at this
     exact this
   · rw [← hq,lH_rop hG (by omega) hc]
     exact hR.bL _ _ hLr k c hc hk
   rintro _ w3 ⟨rfl,hC3,hk3,hS3⟩
   refine ⟨(fun e=>by cases e),?_⟩
   replace hM:=hM.trans hC3
   replace hK:=hK.trans hk3
   refine gh ?_
   by_cases hsz:2 * lH n G T k j≤dH n G T (j + 1)∧-(2 * lH n G T k j)≤dH n G T (j + 1)
   · rw [if_pos hsz] at hS3
     have hsk:=hSI.skip hL2.pos hU0 hk (show j < k by omega) hsz
     rw [hUe] at hsk
     exact ⟨_,Nat.lt_succ_self j,j,T,rfl,by omega,rfl,rfl,rfl,hM,hK,hS3,hL2,hsk,hnl,hpot⟩
   · rw [if_neg hsz,← hq,subRow_rop] at hS3
     have hS3':StB w3 I n N (dH n G (rop q k j T)) (lH n G (rop q k j T)) (rop q k j T):=hS3.congr (Nat.le_refl _) (fun m _=>(dH_rop (by omega) m).symm) (fun a c hc _=>lH_rop hG (by omega) hc) (fun _ _ _ _=>rfl)
     refine ⟨_,Nat.lt_succ_self j,j,rop q k j T,rfl,by omega,rfl,rfl,rfl,hM,hK,hS3',hLr,hst,fun i hi hne=>?_,?_⟩
     · rw [Go.Det.gr_rop,Go.Det.opS_diag hne]; exact hnl i hi hne
     · rw [Go.Det.pot_rop q (by omega)]; exact hpot
 clear hS hM hK hL
 rintro f w2 ⟨T,hf0,hf2,hM,hK,hS,hL,⟨U,hSI⟩,hpot⟩
 rw [ui hf0,ui hf2]
 clear hf0 hf2
 have hpk:0 < det k (gr n T G):=hL.pos k (by omega)
 have hpk1:0 < det (k - 1) (gr n T G):=hL.pos (k - 1) (by omega)
 have ek:k - 1 + 1 = k:=by omega
 have hsz:=hM.size
 refine gh ?_
 refine R1_call2 (project_ok I n N k I.gS (dH n G T) (lH n G T) T w2 hS rfl hk1 hk hn hN1 (by omega) (show dH n G T k ≠ 0 by unfold dH; omega)) ?_
 rintro vP w3 ⟨hE3,hPV⟩
 replace hS:=hS.ext hE3
 replace hM:=hM.add hE3
 replace hK:=hK.trans (kp_ext hE3)
 have hC0:(dH n G T (k - 1) * dH n G T (k + 1) + lH n G T k (k - 1) * lH n G T k (k - 1)) / dH n G T k = bm (k - 1) (gr n T G) k k:=by
  unfold dH lH
  have hs:=Go.Det.step_diag (Go.Det.gr_tr hG (T:=T)) (show det (k - 1) (gr n T G) ≠ 0 by omega) k
  rw [ek,Go.Det.bm_self] at hs
  rw [← hs]
  exact Int.mul_ediv_cancel_left _ (by omega)
 rw [hC0] at hPV
 have hsh:=hSI.short hG hL.pos hL.dle hk hn
 have hCE:bm (k - 1) (gr n T G) k k≤E:=by
  have h1:=Go.Det.diag_le (Go.Det.gr_tr hG (T:=T)) hL.pos hk (k - 1) (by omega)
  have h2:=hL.dle (k - 1) (by omega)
  have h3:=hL.npos hG hk
  have h4:det (k - 1) (gr n T G) * gr n T G k k≤D * (9 * D):=Int.mul_le_mul h2 hsh (by omega) (by omega)
  have:=hR.C9
  omega
 have hj0:PJ n (k - 1) T G E (det k (gr n T G)) (bm (k - 1) (gr n T G) k (k - 1)) (bm (k - 1) (gr n T G) k k) 1 0 0 1:=by
  have h:=PJ.start (p:=k - 1) (E:=E) hG hL.pos (by omega) (by have:=(hSI.sz (k - 1) (Nat.zero_le _) (by omega)).1; rw [ek] at this ⊢; exact this) (by have:=(hSI.sz (k - 1) (Nat.zero_le _) (by omega)).2; rw [ek] at this ⊢; exact this) (by rw [ek]; exact hCE)
  rw [ek] at h
  exact h
 have hPS:PStep (PJ n (k - 1) T G E) N:=hR.pstep (hL.up hR.Bl) (by omega) (by rw [ek]; exact hCE)
 obtain ⟨b1,b2,b3,b4,b5,b6,b7⟩:=hPS.bd _ _ _ _ _ _ _ hj0
 have hPV2:PlV w3 vP N (pz (det k (gr n T G)) (bm (k - 1) (gr n T G) k (k - 1)) (bm (k - 1) (gr n T G) k k) 1 0 0 1):=by
  obtain ⟨hh,e,hc⟩:=hPV
  refine ⟨hh,e,fun j hj=>((hc j hj).2 rfl).ev true ?_⟩
  have:j = 0 ∨ j = 1 ∨ j = 2 ∨ j = 3 ∨ j = 4 ∨ j = 5 ∨ j = 6:=by omega
  rcases this with rfl | rfl | rfl | rfl | rfl | rfl | rfl
  · exact b1
  · exact b2
  · exact b3
  · exact b4
  · exact b5
  · exact b6
  · exact b7
 clear hPV
 refine gh ?_
 refine R1_alloc (.inl rfl) z_Plane ?_
 intro w4 hB4 hE4 hs4
 have hPl:Blk w4 w3.heap.size 117 z14:=hB4
 obtain ⟨gP,hgP⟩ : ∃ g,g = w3.heap.size:=⟨_,rfl⟩
 rw [← hgP] at hPl ⊢
 refine gh ?_
 refine R1_storePl (.inl rfl) rfl rfl (hPV2.ext hE4) hPl rfl z14_noU ?_
 intro w5 hPB hC5 hk5 hs5
 have hE35:Ext w3 w5:=hC5.ext_of hE4 (fun b hb=>by omega)
 replace hS:=hS.ext hE35
 replace hM:=hM.add hE35
 replace hK:=hK.trans (kp_ext hE35)
 replace hPV2:=hPV2.ext hE35
 clear hPl hB4 hE4 hs4 hC5 hk5 hs5 hE35
 have hgP2:w.heap.size≤gP:=by have:=hE3.size; omega
 refine gh ?_
 refine W_seq ?_
 refine gh ?_
 refine R1_call2 (unbalanced_ok gP N _ w5 hPB (by omega)) ?_
 rintro _ w6 ⟨hE6,rfl⟩
 replace hS:=hS.ext hE6
 replace hM:=hM.add hE6
 replace hK:=hK.trans (kp_ext hE6)
 replace hPB:=hPB.ext hE6
 replace hPV2:=hPV2.ext hE6
 have hac:det k (gr n T G) * bm (k - 1) (gr n T G) k k = det (k - 1) (gr n T G) * det (k + 1) (gr n T G) + bm (k - 1) (gr n T G) k (k - 1) * bm (k - 1) (gr n T G) k (k - 1):=by
  have hs:=Go.Det.step_diag (Go.Det.gr_tr hG (T:=T)) (show det (k - 1) (gr n T G) ≠ 0 by omega) k
  rw [ek,Go.Det.bm_self] at hs
  exact hs
 by_cases hu:4 * pz (det k (gr n T G)) (bm (k - 1) (gr n T G) k (k - 1)) (bm (k - 1) (gr n T G) k k) 1 0 0 1 2 < 3 * pz (det k (gr n T G)) (bm (k - 1) (gr n T G) k (k - 1)) (bm (k - 1) (gr n T G) k k) 1 0 0 1 0
 rotate_left
 · have hu':¬ 4 * bm (k - 1) (gr n T G) k k < 3 * det k (gr n T G):=hu
   rw [decide_eq_false hu]
   refine gh ?_
   refine ⟨_,?_,k + 1,T,rfl,by omega,hk,rfl,rfl,hM,hK,hS,hL.next hG hk1 hk hSI ?_⟩
   · rw [hpot]; omega
   · have h1:=Int.mul_le_mul_of_nonneg_left (show 3 * det k (gr n T G)≤4 * bm (k - 1) (gr n T G) k k by omega) (Int.le_of_lt hpk)
     have e1:det k (gr n T G) * (3 * det k (gr n T G)) = 3 * (det k (gr n T G) * det k (gr n T G)):=by grind
     have e2:det k (gr n T G) * (4 * bm (k - 1) (gr n T G) k k) = 4 * (det k (gr n T G) * bm (k - 1) (gr n T G) k k):=by grind
     omega
 have hu':4 * bm (k - 1) (gr n T G) k k < 3 * det k (gr n T G):=hu
 rw [decide_eq_true hu]
 have hEn:1≤E:=by have:=hL.D1; have:=hR.Dl; omega
 have hB1:1≤B:=by have:=hL.D1; have:=hR.B9; omega
 have hSB:SI n (k - 1 + 1) 0 (gr n T G) B:=by
  rw [ek]
  refine ⟨hSI.red,hSI.sz,fun c hc=>?_⟩
  obtain ⟨h1,h2⟩:=hSI.sz c (Nat.zero_le _) hc
  have h3:=hL.pos (c + 1) (by omega)
  have h4:=Int.mul_le_mul_of_nonneg_right hB1 (Int.le_of_lt h3)
  omega
 have hLk:LI n (k - 1 + 1) G T D B:=by rw [ek]; exact hL
 have hfin:∀ a' b' c' u0 u1 v0 v1,PJ n (k - 1) T G E a' b' c' u0 u1 v0 v1→¬ 4 * c' < 3 * a'→∃ V,PI n (k - 1) T V G u0 u1 v0 v1∧PN n (k - 1) V G a' b' c'∧LI n (k - 1) G V D B∧pot (gr n V G) n < pot (gr n T G) n:=by
  intro a' b' c' u0 u1 v0 v1 hj hnb
  obtain ⟨_,_,_,k0,k1,k2,k3⟩:=hj.bound hG hL.pos (show k - 1 + 1 < n by omega) hL.dle hR.Dl (by rw [ek]; exact hCE)
  obtain ⟨V,hI',hN',hA',ha,hc,hle,hb1,hb2,hcE⟩:=hj
  rw [ek] at hle
  have hlt:a' < det (k - 1 + 1) (gr n T G):=by
   rw [ek]
   rcases hle with h | ⟨h1,h2⟩
   · exact h
   · exact absurd hu' (by rw [← h1,← h2]; exact hnb)
  have hDk:=hL.dle k (by omega)
  have hnm:=Go.Det.plane_norm hG (show k - 1 + 1 < n by omega) hn hLk hSB hI' hN' ha (by rw [ek] at hlt; omega) hb1 hb2 hEn k0 k1 k2 k3
  obtain ⟨h1,h2⟩:=Go.Det.LI.plane hG (show k - 1 + 1 < n by omega) hLk hI' hN' ha hlt (Int.le_refl B) (Int.le_trans hnm.1 hR.BE) (Int.le_trans hnm.2 hR.BE)
  exact ⟨V,hI',hN',h1,h2⟩
 obtain ⟨hh,hBl,hcl⟩:=id hPB
 refine gh ?_
 refine R1_loadAllF (by decide) agg_Plane rfl hBl (arr_size 14 hh) ?_
 refine gh ?_
 refine R1_call2 (improve_ok (PJ n (k - 1) T G E) I n N k I.gS (dH n G T) (lH n G T) T _ _ _ _ _ _ _ _ w6 hS hI rfl hk1 hk hn (by omega) ⟨hh,rfl,hcl⟩ hPS hj0 (show dH n G T (k - 1) ≠ 0 by unfold dH; omega) (fun a' b' c' u0 u1 v0 v1 hj hnb=>?_)) ?_
 · obtain ⟨V,hI',hN',hLV,_⟩:=hfin _ _ _ _ _ _ _ hj hnb
   refine ⟨fun i q hi hq=>?_,fun i q hq hi=>?_⟩
   · rw [impT_eq hk1 hI']
     exact hR.bT _ _ (hLV.up hR.Bl) i q hi hq
   · rw [impL_eq hG hk1 hI' hN' (by omega) (by omega) hq]
     exact hR.bL _ _ (hLV.up hR.Bl) i q hq hi
 rintro _ w7 ⟨rfl,hC7,hk7,a',b',c',u0,u1,v0,v1,hj,hnb,hS7⟩
 obtain ⟨V,hI',hN',hLV,hpV⟩:=hfin _ _ _ _ _ _ _ hj hnb
 have hS7':StB w7 I n N (dH n G V) (lH n G V) V:=hS7.congr (Nat.le_refl _) (fun m _=>dH_imp hk1 hI' hN' m) (fun i q hq _=>impL_eq hG hk1 hI' hN' (by omega) (by omega) hq) (fun i q _ _=>impT_eq hk1 hI' i q)
 refine gh ?_
 refine R1_max1 (b:=k - 1) rfl ?_
 refine gh ?_
 have hmx:Nat.max 1 (k - 1) = 1 ∨ Nat.max 1 (k - 1) = k - 1:=by
  show Max.max 1 (k - 1) = 1 ∨ Max.max 1 (k - 1) = k - 1
  omega
 have hmx1:1≤Nat.max 1 (k - 1):=by show 1≤Max.max 1 (k - 1); omega
 obtain ⟨k',hk'⟩ : ∃ k',k' = Nat.max 1 (k - 1):=⟨_,rfl⟩
 rw [← hk'] at hmx hmx1 ⊢
 refine ⟨_,?_,k',V,rfl,hmx1,by omega,?_⟩
 · rw [← hpot]; omega
 refine ⟨rfl,rfl,hM.trans hC7,hK.trans hk7,hS7',?_⟩
 rcases hmx with e | e
 · rw [e]
   exact ⟨hLV.uni,hLV.pos,Go.Det.Red.one _,hLV.dle,hLV.nle⟩
 · rw [e]; exact hLV
end Go.Proofs.YtmkbpjoihdfpkaaGreat
namespace Go.Proofs.YtmkbpjoihdfpkaaGreat
open Go Go.Eng Go.Num Go.Proofs
open Go.Det (gr bm det Sy PM LI bil adj mul one sm)
def pw (m:Nat):Int:=((B ^ m:Nat):Int)
theorem pw_pos (m:Nat):1≤pw m:=by
 unfold pw
 have:=B_pos m
 omega
theorem pw_add (a b:Nat):pw a * pw b = pw (a + b):=by
 unfold pw
 rw [Nat.pow_add]; exact (Int.natCast_mul _ _).symm
theorem pw_le {a b:Nat} (h:a≤b):pw a≤pw b:=by
 unfold pw
 exact Int.ofNat_le.2 (Nat.pow_le_pow_right (by decide) h)
theorem pw_c {a:Nat} {c x:Int} (hc:0≤c) (hcB:c≤4294967296) (hx:x≤pw a):c * x≤pw (a + 1):=by
 have h1:=Int.mul_le_mul_of_nonneg_left hx hc
 have h2:=Int.mul_le_mul_of_nonneg_right hcB (show 0≤pw a by have:=pw_pos a; omega)
 have e:pw (a + 1) = 4294967296 * pw a:=by
  unfold pw
  rw [Nat.pow_succ,Nat.mul_comm]
  exact Int.natCast_mul _ _
 omega
theorem bd_le {N:Nat} {z:Int} (h:Bd N z):z≤pw N:=by
 unfold Bd at h; unfold pw; omega
theorem bd_pw {N M:Nat} {z:Int} (h:z.natAbs≤(pw M).natAbs) (hM:M < N):Bd N z:=by
 unfold Bd
 have h1:(pw M).natAbs = B ^ M:=by unfold pw; omega
 have h2:B ^ M < B ^ N:=Nat.pow_lt_pow_right (by decide) hM
 omega
theorem sq_natAbs {x:Int} {X:Int} (h:x * x≤X):x.natAbs≤X.natAbs:=by
 have e1:x * x = ((x.natAbs * x.natAbs:Nat):Int):=by rw [Int.natAbs_mul_self]
 rw [e1] at h
 have h2:x.natAbs≤x.natAbs * x.natAbs:=Nat.le_mul_self _
 omega
theorem abs_sm (n:Nat) (f:Nat→Int) (N:Nat) (h:∀ k,k < n→Bd N (f k)) (hn:n < 4294967296):Bd (N + 1) (sm n f):=by
 rw [← sumTo_sm]; exact sumTo_bd hn h
theorem runB {n N0:Nat} {G:Nat→Nat→Int} (hG:Sy n G) (hn1:1≤n) (hn:n≤8) (hN1:1≤N0) (bG:∀ i j,i < n→j < n→Bd N0 (G i j)) (hp:PM n G) :
 RunB n (15 * Nb N0 8 + 12) G (pw (Nb N0 8)) (pw (5 * Nb N0 8 + 3)) (pw (13 * Nb N0 8 + 9)) (pw (2 * Nb N0 8 + 1))∧LI n 1 G one (pw (Nb N0 8)) (pw (5 * Nb N0 8 + 3)):=by
 obtain ⟨K,hK⟩ : ∃ K,K = Nb N0 8:=⟨_,rfl⟩
 have hKN:N0≤K:=by rw [hK]; exact Nb_le' N0 (Nat.zero_le 8)
 have bd:∀ m,m≤n→Bd K (det m G):=fun m hm=>by
  rw [← detB_det,hK]
  exact (detB_bd hN1 fun i j hi hj=>bG i j (show i < n by omega) (show j < n by omega)).mono (Nb_le' N0 (by omega))
 rw [← hK]
 have hs:Go.Det.tr (gr n one G) = gr n one G:=Go.Det.gr_tr hG
 constructor
 · have p1:=pw_pos K
   have eDD:pw K * pw K = pw (2 * K):=by rw [pw_add]; congr 1; omega
   have l1:pw K≤pw (2 * K):=pw_le (by omega)
   have eE:pw (2 * K + 1) * pw (2 * K + 1) = pw (4 * K + 2):=by rw [pw_add]; congr 1; omega
   have eB:pw K * pw (5 * K + 3) = pw (6 * K + 3):=by rw [pw_add]; congr 1; omega
   refine ⟨hG,?_,pw_le (by omega),?_,?_,?_,pw_le (by omega),fun t ht=>?_,fun k T hL i c hi hc=>?_,fun k T hL i c hc hi=>?_,fun z hz=>bd_pw hz (by omega)⟩
   · rw [eDD]
     have:=pw_c (c:=2) (by decide) (by decide) (Int.le_refl (pw (2 * K)))
     omega
   · rw [show pw K * (9 * pw K) = 9 * (pw K * pw K) by grind,eDD]
     exact pw_c (by decide) (by decide) (Int.le_refl _)
   · exact Int.le_trans (pw_c (a:=K) (by decide) (by decide) (Int.le_refl _)) (pw_le (by omega))
   · rw [show 2 * pw (2 * K + 1) * (2 * pw (2 * K + 1)) * pw K = 4 * (pw (2 * K + 1) * pw (2 * K + 1) * pw K) by grind,eE,pw_add,show 4 * K + 2 + K = 5 * K + 2 by omega]
     have h1:pw K≤pw (5 * K + 2):=pw_le (by omega)
     have:=pw_c (a:=5 * K + 2) (c:=33) (by decide) (by decide) (Int.le_refl _)
     rw [show 5 * K + 2 + 1 = 5 * K + 3 by omega] at this
     omega
   · rw [eB]
     have ht2:(2:Int) ^ t≤256:=by
      have h8:(2:Nat) ^ t≤2 ^ 8:=Nat.pow_le_pow_right (by decide) ht
      have e8:(2:Nat) ^ 8 = 256:=by decide
      rw [e8] at h8
      have e9:((2 ^ t:Nat):Int) = (2:Int) ^ t:=by rw [Int.natCast_pow]; rfl
      rw [← e9]
      omega
     have ht0:(1:Int)≤2 ^ t:=by
      have h8:0 < (2:Nat) ^ t:=Nat.pow_pos (by decide)
      have e9:((2 ^ t:Nat):Int) = (2:Int) ^ t:=by rw [Int.natCast_pow]; rfl
      rw [← e9]
      omega
     have p6:=pw_pos (6 * K + 3)
     have h1:(2:Int) ^ t * (pw (6 * K + 3) + 1)≤256 * (2 * pw (6 * K + 3)):=Int.mul_le_mul ht2 (by omega) (by omega) (by decide)
     have h0:(1:Int)≤2 ^ t * (pw (6 * K + 3) + 1):=by
      have:=Int.mul_le_mul ht0 (show (1:Int)≤pw (6 * K + 3) + 1 by omega) (by omega) (by omega)
      omega
     have h2:2 ^ t * (pw (6 * K + 3) + 1) - 1≤pw (6 * K + 4):=by
      have:=pw_c (a:=6 * K + 3) (c:=512) (by decide) (by decide) (Int.le_refl _)
      rw [show 6 * K + 3 + 1 = 6 * K + 4 by omega] at this
      omega
     obtain ⟨u,hu⟩ : ∃ u:Int,u = 2 ^ t * (pw (6 * K + 3) + 1) - 1:=⟨_,rfl⟩
     rw [← hu] at h2 ⊢
     have hu0:0≤u:=by omega
     have h3:u * u≤pw (6 * K + 4) * pw (6 * K + 4):=Int.mul_le_mul h2 h2 hu0 (by have:=pw_pos (6 * K + 4); omega)
     have h4:u * u * pw K≤pw (13 * K + 8):=by
      have:=Int.mul_le_mul_of_nonneg_right h3 (show 0≤pw K by omega)
      rw [pw_add,pw_add,show 6 * K + 4 + (6 * K + 4) + K = 13 * K + 8 by omega] at this
      exact this
     have h5:pw K≤pw (13 * K + 8):=pw_le (by omega)
     have:=pw_c (a:=13 * K + 8) (c:=9) (by decide) (by decide) (Int.le_refl _)
     rw [show 13 * K + 8 + 1 = 13 * K + 9 by omega] at this
     omega
   · -- the basis
     have hgs:Go.Det.tr (gr n one G) = gr n one G:=hs
     obtain ⟨G',hG'⟩ : ∃ G':Nat→Nat→Int,G' = gr n one G:=⟨_,rfl⟩
     have eG:∀ a b,a < n→b < n→G' a b = G a b:=fun a b ha hb=>by rw [hG']; exact Go.Det.gr_one ha hb
     have hpG':PM n G':=fun m hm=>by
      rw [hG',Go.Det.gr_one_det hm]; exact hp m hm
     have hbil:∀ u v,bil n G' u v = bil n G u v:=fun u v=>by
      unfold bil
      exact Go.Det.sm_congr fun a ha=>by rw [Go.Det.sm_congr fun b hb=>by rw [eG a b ha hb]]
     have hw:∀ d,d < n→Bd (14 * K + 10) (sm n fun a=>T i a * G a d):=fun d hd=>by
      have e1:bil n G (T i) (fun x=>one x d) = sm n fun a=>T i a * G a d:=by
       unfold bil
       refine Go.Det.sm_congr fun a ha=>?_
       congr 1
       rw [Go.Det.sm_one (c:=d) hd fun b _ hb=>by simp only [one]; rw [if_neg hb,Int.mul_zero]]
       simp only [one,if_true,Int.mul_one]
      have e2:bil n G (fun x=>one x d) (fun x=>one x d) = G d d:=by
       unfold bil
       rw [Go.Det.sm_one (c:=d) hd fun b _ hb=>by simp only [one]; rw [if_neg hb,Int.zero_mul]]
       rw [Go.Det.sm_one (c:=d) hd fun b _ hb=>by simp only [one]; rw [if_neg hb,Int.mul_zero]]
       simp only [one,if_true,Int.mul_one,Int.one_mul]
      have hdd:0 < G d d:=by
       have:=Go.Det.diag_pos (by rw [hG']; exact hgs) hpG' hd d 0 (by omega)
       rw [Go.Det.bm_zero',eG d d hd hd] at this
       exact this
      have hcs:=Go.Det.cauchy (n:=n) (H:=G') (by rw [hG']; exact hgs) hpG' (T i) (fun x=>one x d) (by rw [hbil,e2]; exact hdd)
      rw [hbil,hbil,hbil,e1,e2] at hcs
      have h1:bil n G (T i) (T i)≤pw (13 * K + 9):=hL.nle i hi
      have h2:G d d≤pw K:=Int.le_trans (bd_le (bG d d hd hd)) (pw_le hKN)
      have h3:bil n G (T i) (T i) * G d d≤pw (13 * K + 9) * pw K:=Int.mul_le_mul h1 h2 (by omega) (by have:=pw_pos (13 * K + 9); omega)
      rw [pw_add,show 13 * K + 9 + K = 14 * K + 9 by omega] at h3
      exact bd_pw (sq_natAbs (Int.le_trans hcs h3)) (by omega)
     obtain ⟨m,rfl⟩ : ∃ m,n = m + 1:=⟨n - 1,by omega⟩
     have ba:∀ d,d < m + 1→Bd K (adj m G d c):=fun d hd=>by
      unfold adj Go.Det.cof
      have h1:Bd K (det m (Go.Det.minor G c d)):=by
       rw [← detB_det,hK]
       refine (detB_bd hN1 fun a b ha hb=>?_).mono (Nb_le' N0 (by omega))
       exact bG _ _ (Go.Det.skip_lt ha) (Go.Det.skip_lt hb)
      unfold Go.Det.sgn
      unfold Bd at *
      rw [Int.natAbs_mul]
      split <;> simpa using h1
     have hsum:(sm (m + 1) fun d=>(sm (m + 1) fun a=>T i a * G a d) * adj m G d c) = T i c * det (m + 1) G:=by
      have e1:(sm (m + 1) fun d=>(sm (m + 1) fun a=>T i a * G a d) * adj m G d c) = mul (m + 1) (mul (m + 1) T G) (adj m G) i c:=rfl
      rw [e1,Go.Det.mul_assoc]
      simp only [mul]
      rw [Go.Det.sm_one (c:=c) hc fun q hq hne=>by
       have:=Go.Det.mul_adj m G q c hq hc
       simp only [mul] at this
       rw [this,if_neg hne,Int.mul_zero]]
      have:=Go.Det.mul_adj m G c c hc hc
      simp only [mul] at this
      rw [this]; simp
     have hb:=abs_sm (m + 1) (fun d=>(sm (m + 1) fun a=>T i a * G a d) * adj m G d c) (14 * K + 10 + K) (fun d hd=>(hw d hd).mul (ba d hd)) (by omega)
     rw [hsum] at hb
     have hdet:=hp (m + 1) (Nat.le_refl _)
     have h4:Bd (14 * K + 10 + K + 1) (T i c):=by
      unfold Bd at *
      rw [Int.natAbs_mul] at hb
      have:(T i c).natAbs≤(T i c).natAbs * (det (m + 1) G).natAbs:=Nat.le_mul_of_pos_right _ (by omega)
      omega
     exact h4.mono (by omega)
   · have h:=Go.Det.lam_sq (Go.Det.gr_tr hG (T:=T)) hL.pos hi hc
     have h1:=hL.dle (c + 1) (by omega)
     have h2:=hL.dle c (by omega)
     have h3:=hL.nle i hi
     have h4:=hL.npos hG hi
     have p0:=hL.pos c (by omega)
     have p2:=hL.pos (c + 1) (by omega)
     have h5:det c (gr n T G) * gr n T G i i≤pw K * pw (13 * K + 9):=Int.mul_le_mul h2 h3 (by omega) (by omega)
     rw [pw_add] at h5
     have h6:det (c + 1) (gr n T G) * (det c (gr n T G) * gr n T G i i)≤pw K * pw (K + (13 * K + 9)):=Int.mul_le_mul h1 h5 (Int.mul_nonneg (by omega) (by omega)) (by omega)
     rw [pw_add] at h6
     exact bd_pw (sq_natAbs (Int.le_trans h h6)) (by omega)
 · refine LI.start hp (fun m hm=>bd_le (bd m hm)) (fun i hi=>Int.le_trans (bd_le (bG i i hi hi)) (pw_le (by omega)))
end Go.Proofs.YtmkbpjoihdfpkaaGreat
namespace Go.Det
open Go Go.Proofs.YtmkbpjoihdfpkaaGreat
def SzF (H:Mt) (i j:Nat):Prop:=∀ c,j≤c→c < i→2 * bm c H i c≤det (c + 1) H∧-(2 * bm c H i c)≤det (c + 1) H
def LvF (H:Mt) (p:Nat):Prop:=3 * (det (p + 1) H * det (p + 1) H)≤4 * (det p H * det (p + 2) H + bm p H (p + 1) p * bm p H (p + 1) p)
structure RRb (n N:Nat) (G:Mt) (D B Bs:Int):Prop where
 sy:Sy n G
 B9:9 * D≤B
 Bl:B≤Bs
 Bu:∀ t:Nat,t≤8→D + 8 * ((2 ^ t * (D * B + 1) - 1) * (2 ^ t * (D * B + 1) - 1) * D)≤Bs
 bT:∀ k T,LI n k G T D Bs→∀ i c,i < n→c < n→Bd N (T i c)
 bH:∀ k T,LI n k G T D Bs→∀ i c,i < n→c < n→Bd N (gr n T G i c)
 bQ:∀ z:Int,z.natAbs≤Bs.natAbs→Bd N z
structure RJ (n k j:Nat) (G T:Mt) (D B Bs:Int):Prop where
 kn:k < n
 jk:j≤k
 li:LI n k G T D Bs
 si:SI n k j (gr n T G) (2 ^ (k - j) * (D * B + 1) - 1)
 nl:∀ i,i < n→i ≠ k→gr n T G i i≤B
def msr (n k j:Nat) (G T:Mt):Nat:=pot (gr n T G) n * 256 + (n - k) * 16 + j
variable {n N k j:Nat} {G T:Mt} {D B Bs:Int}
theorem pw2_pos (t:Nat):(1:Int)≤2 ^ t:=by
 have:0 < (2:Nat) ^ t:=Nat.pow_pos (by decide)
 exact_mod_cast this
theorem pw2_le {a b:Nat} (h:a≤b):(2:Int) ^ a≤2 ^ b:=by
 have:(2:Nat) ^ a≤2 ^ b:=Nat.pow_le_pow_right (by decide) h
 exact_mod_cast this
theorem U_mono {C:Int} (hC:0≤C) {a b:Nat} (h:a≤b):2 ^ a * (C + 1) - 1≤2 ^ b * (C + 1) - 1:=by
 have:=Int.mul_le_mul_of_nonneg_right (pw2_le h) (show 0≤C + 1 by omega)
 omega
theorem U_nonneg {C:Int} (hC:0≤C) (a:Nat):0≤2 ^ a * (C + 1) - 1:=by
 have:=Int.mul_le_mul (pw2_pos a) (show (1:Int)≤C + 1 by omega) (by omega) (by have:=pw2_pos a; omega)
 omega
theorem SI.more {H:Mt} {j':Nat} {U U':Int} (hp:PM n H) (hk:k < n) (h:SI n k j H U) (hU:U≤U') (hz:SzF H k j'):SI n k j' H U':=by
 refine ⟨h.red,hz,fun c hc=>?_⟩
 have h1:=h.bd c hc
 have h2:=Int.mul_le_mul_of_nonneg_right hU (Int.le_of_lt (hp (c + 1) (by omega)))
 omega
theorem RJ.DB (h:RJ n k j G T D B Bs) (hR:RRb n N G D B Bs):0≤D * B:=by
 have h1:=h.li.D1
 have h2:=hR.B9
 exact Int.mul_nonneg (by omega) (by omega)
theorem RJ.full (h:RJ n k j G T D B Bs) (hR:RRb n N G D B Bs) (hn:n≤8) (hz:SzF (gr n T G) k 0):LI n k G T D B:=by
 have hs:SI n k 0 (gr n T G) (2 ^ (k - j) * (D * B + 1) - 1):=h.si.more h.li.pos h.kn (Int.le_refl _) hz
 have hsh:=hs.short hR.sy h.li.pos h.li.dle h.kn hn
 refine ⟨h.li.uni,h.li.pos,h.li.red,h.li.dle,fun i hi=>?_⟩
 by_cases e:i = k
 · subst e; exact Int.le_trans hsh hR.B9
 · exact h.nl i hi e
theorem RJ.adv {i:Nat} (h:RJ n k j G T D B Bs) (hR:RRb n N G D B Bs) (hn:n≤8) (hi:i < n) (hki:k≤i) (hr:Red i (gr n T G)):∃ j',RJ n i j' G T D B Bs∧msr n i j' G T≤msr n k j G T:=by
 by_cases e:k = i
 · subst e; exact ⟨j,h,Nat.le_refl _⟩
 have hz:SzF (gr n T G) k 0:=fun c _ hc=>hr.sized k c hc (by omega)
 have hL:=h.full hR hn hz
 have hLi:LI n i G T D B:=⟨hL.uni,hL.pos,hr,hL.dle,hL.nle⟩
 refine ⟨i,⟨hi,Nat.le_refl _,hLi.up hR.Bl,?_,fun a ha _=>hL.nle a ha⟩,?_⟩
 · have:=hLi.si hR.sy hi
   rw [Nat.sub_self,Int.pow_zero,Int.one_mul,show D * B + 1 - 1 = D * B by omega]
   exact this
 · unfold msr
   omega
theorem RJ.start (hn:1≤n) (hR:RRb n N G D B Bs) (h:LI n 1 G T D B):RJ n 0 0 G T D B Bs:=by
 have h0:LI n 0 G T D B:=⟨h.uni,h.pos,h.red.le (by omega),h.dle,h.nle⟩
 refine ⟨hn,Nat.le_refl _,h0.up hR.Bl,?_,fun a ha _=>h0.nle a ha⟩
 have:=h0.si hR.sy hn
 rw [Nat.sub_self,Int.pow_zero,Int.one_mul,show D * B + 1 - 1 = D * B by omega]
 exact this
theorem RJ.size {i c:Nat} (h:RJ n k j G T D B Bs) (hR:RRb n N G D B Bs) (hn:n≤8) (hi:i < n) (hc:c < i) (hr:Red i (gr n T G)) (hz:SzF (gr n T G) i (c + 1))
 (hv:¬ (2 * bm c (gr n T G) i c≤det (c + 1) (gr n T G)∧-(2 * bm c (gr n T G) i c)≤det (c + 1) (gr n T G))) :
 Bd N (nearZ (bm c (gr n T G) i c) (det (c + 1) (gr n T G)))∧RJ n i c G (rop (nearZ (bm c (gr n T G) i c) (det (c + 1) (gr n T G))) i c T) D B Bs ∧
  msr n i c G (rop (nearZ (bm c (gr n T G) i c) (det (c + 1) (gr n T G))) i c T) < msr n k j G T:=by
 have hki:k≤i:=by
  refine Nat.le_of_not_lt fun e=>hv (h.li.red.sized i c hc e)
 obtain ⟨j',h',hm⟩:=h.adv hR hn hi hki hr
 have hcj:c < j':=Nat.lt_of_not_le fun e=>hv (h'.si.sz c e hc)
 have hDB:=h.DB hR
 have hG:=hR.sy
 have hL2:=h'.li
 have hjk:=h'.jk
 have hU0:=U_nonneg hDB (i - (c + 1))
 have hSI:SI n i (c + 1) (gr n T G) (2 ^ (i - (c + 1)) * (D * B + 1) - 1):=h'.si.more hL2.pos hi (U_mono hDB (by omega)) hz
 have hUe:2 * (2 ^ (i - (c + 1)) * (D * B + 1) - 1) + 1 = 2 ^ (i - c) * (D * B + 1) - 1:=by
  rw [show i - c = (i - (c + 1)) + 1 by omega,Int.pow_succ]; grind
 have hst:=hSI.step (gr_tr hG) hL2.pos hU0 hi hc
 have hbd:=hSI.bd c hc
 have hpc:=hL2.pos (c + 1) (by omega)
 have hqb:=nearZ_abs hpc hbd.1 hbd.2
 rw [hUe,← gr_rop] at hst
 generalize hq:nearZ (bm c (gr n T G) i c) (det (c + 1) (gr n T G)) = q at hst hqb ⊢
 have hposr:PM n (gr n (rop q i c T) G):=by rw [gr_rop]; exact hL2.pos.opS hc
 have hdler:∀ m,m≤n→det m (gr n (rop q i c T) G)≤D:=fun m hm=>by rw [gr_rop,det_opS q _ hc]; exact hL2.dle m hm
 have hUr:0≤2 ^ (i - c) * (D * B + 1) - 1:=U_nonneg hDB _
 have hnr:=hst.norm hG hposr hdler hUr hi
 have hBu:=hR.Bu (i - c) (by omega)
 have hD1:=hL2.D1
 have hsq:0≤(2 ^ (i - c) * (D * B + 1) - 1) * (2 ^ (i - c) * (D * B + 1) - 1) * D:=Int.mul_nonneg (sq_nonneg _) (by omega)
 have hLr:LI n i G (rop q i c T) D Bs:=hL2.sub hG q hc hi (Nat.le_refl _) (Int.le_refl _) (by
  refine Int.le_trans hnr (Int.le_trans ?_ hBu)
  have:=Int.mul_le_mul_of_nonneg_right (show (i:Int)≤8 by omega) hsq
  omega)
 refine ⟨hR.bQ q ?_,⟨hi,by omega,hLr,hst,fun a ha hne=>?_⟩,?_⟩
 · -- |q|≤U + 1≤2 ^ (i - c) ..
   have hUU:2 ^ (i - (c + 1)) * (D * B + 1) - 1 + 1≤2 ^ (i - c) * (D * B + 1) - 1 + 1:=by have:=U_mono hDB (show i - (c + 1)≤i - c by omega); omega
   generalize 2 ^ (i - c) * (D * B + 1) - 1 = U at hBu hsq hUr hUU
   have h1:U≤U * U * D:=by
    by_cases e:U = 0
    · rw [e]; simp
    · have e1:=Int.mul_le_mul_of_nonneg_left (show (1:Int)≤U by omega) hUr
      have e2:=Int.mul_le_mul_of_nonneg_left hD1 (sq_nonneg U)
      omega
   omega
 · rw [gr_rop,opS_diag hne]; exact h'.nl a ha hne
 · refine Nat.lt_of_lt_of_le ?_ hm
   unfold msr
   rw [pot_rop q hc]
   omega
theorem RJ.exch {p:Nat} (h:RJ n k j G T D B Bs) (hR:RRb n N G D B Bs) (hn:n≤8) (hp:p + 1 < n) (hr:Red (p + 1) (gr n T G)) (hz:SzF (gr n T G) (p + 1) 0) (hv:¬ LvF (gr n T G) p) :
 RJ n p p G (swp2 p (p + 1) T) D B Bs∧msr n p p G (swp2 p (p + 1) T) < msr n k j G T:=by
 have hki:k≤p + 1:=Nat.le_of_not_lt fun e=>hv (h.li.red.lov p (by omega))
 obtain ⟨j',h',hm⟩:=h.adv hR hn hp hki hr
 have hG:=hR.sy
 have hL:=h'.full hR hn hz
 have hI:PI n p T (swp2 p (p + 1) T) G 0 1 1 0:=(PI.start n p T G).swap hp
 have hN0:PN n p T G (det (p + 1) (gr n T G)) (bm p (gr n T G) (p + 1) p) (bm p (gr n T G) (p + 1) (p + 1)):=⟨bm_self p _,rfl,rfl⟩
 have hN:=hN0.swap hG
 have hd0:=hL.pos p (by omega)
 have hd1:=hL.pos (p + 1) (by omega)
 have hd2:=hL.pos (p + 2) (by omega)
 have hdi:=hN0.disc hG (by omega)
 have hc0:0 < bm p (gr n T G) (p + 1) (p + 1):=diag_pos (gr_tr hG) hL.pos (i:=p + 1) hp 1 p rfl
 have hlt:bm p (gr n T G) (p + 1) (p + 1) < det (p + 1) (gr n T G):=by
  unfold LvF at hv
  rw [← hdi] at hv
  refine Int.lt_of_not_ge fun e=>hv ?_
  have e1:=Int.mul_le_mul_of_nonneg_left e (Int.le_of_lt hd1)
  have e2:=Int.mul_nonneg (Int.le_of_lt hd1) (Int.le_of_lt hc0)
  omega
 have hsw:gr n (swp2 p (p + 1) T) G = opW p (gr n T G):=gr_sw n T G p
 obtain ⟨hL2,hpot⟩:=hL.plane (B':=B) hG hp hI hN hc0 hlt (Int.le_refl _) (by
  rw [hsw]; unfold opW; rw [sw_a]; exact hL.nle _ hp) (by
  rw [hsw]; unfold opW; rw [sw_b]; exact hL.nle _ (by omega))
 refine ⟨⟨by omega,Nat.le_refl _,hL2.up hR.Bl,?_,fun a ha _=>hL2.nle a ha⟩,Nat.lt_of_lt_of_le ?_ hm⟩
 · have:=hL2.si hG (show p < n by omega)
   rw [Nat.sub_self,Int.pow_zero,Int.one_mul,show D * B + 1 - 1 = D * B by omega]
   exact this
 · unfold msr
   omega
end Go.Det
