/- Joined: Sfi, Sre. -/
import Derived.Test.YtncbjgblcofddaaGreatDoorQpe
import Derived.Test.YtncbjgblcofddaaGreatDoorQj
import Derived.Test.YtncbjgblcofddaaGreatDoorQoo
/- The reference's Smith form: find. -/
namespace Go.Proofs.YtncbjgblcofddaaGreatDoor
open Go Go.Eng Go.Num Go.Proofs
section
variable {P:Program} {n:Nat} {ops:Array Oper} {S:World→World→Prop} {K:Fr→World→Prop} {f:Fr} {w:World} {o:Oper} {rest:List Oper}
theorem Ro_noU {l:List Oper} {i k:Nat} {ord:List (Nat × Nat)} {j:Nat} {b:Bool} {t:Tmp} (ho:l[i]? = some o) (h:o.guard = some (j,b)) (hj:(l[j]?).bind (·.dst) = some t) (ht:ev n f (.tmp t) = undef)
 (hr:Ro P n l.toArray S K ord (updO f o.dst undef) w):Ro P n l.toArray S K ((i,k) :: ord) f w:=by
 unfold Ro; refine ⟨o,by simpa using ho,?_⟩; rw [want_undef h (by simpa using hj) ht]; simpa using hr
end
def bef (n k i j a b:Nat):Prop:=k≤a∧k≤b∧b < n∧(a < i ∨ a = i∧b < j)
def FS (n k i j:Nat) (M:Nat→Nat→Int) (p c:Nat) (fd:Bool):Prop :=
 (fd = false∧p = 0∧c = 0∧∀ a b,bef n k i j a b→M a b = 0) ∨
 (fd = true∧bef n k i j p c∧M p c ≠ 0∧(∀ a b,bef n k i j a b→M a b ≠ 0→(M p c).natAbs≤(M a b).natAbs)∧∀ a b,bef n k p c a b→M a b ≠ 0→(M p c).natAbs < (M a b).natAbs)
theorem FS.same {n k i j i' j' p c:Nat} {M:Nat→Nat→Int} {fd:Bool} (h:FS n k i j M p c fd) (e:∀ a b,bef n k i' j' a b→bef n k i j a b ∨ M a b = 0) (e2:∀ a b,bef n k i j a b→bef n k i' j' a b):FS n k i' j' M p c fd:=by
 rcases h with ⟨h1,h2,h3,h4⟩ | ⟨h1,h2,h3,h4,h5⟩
 · exact .inl ⟨h1,h2,h3,fun a b hab=>(e a b hab).elim (h4 a b) id⟩
 · exact .inr ⟨h1,e2 _ _ h2,h3,fun a b hab hz=>(e a b hab).elim (fun g=>h4 a b g hz) (fun g=>absurd g hz),h5⟩
theorem FS.skip {n k i j p c:Nat} {M:Nat→Nat→Int} {fd:Bool} (h:FS n k i j M p c fd) (hz:M i j = 0):FS n k i (j + 1) M p c fd:=by
 refine h.same (fun a b hab=>?_) (fun a b hab=>by unfold bef at *; omega)
 by_cases e:a = i∧b = j
 · rw [e.1,e.2]; exact .inr hz
 · refine .inl ?_
   unfold bef at *; omega
theorem FS.keep {n k i j p c:Nat} {M:Nat→Nat→Int} (h:FS n k i j M p c true) (hle:(M p c).natAbs≤(M i j).natAbs):FS n k i (j + 1) M p c true:=by
 rcases h with ⟨h1,_⟩ | ⟨_,h2,h3,h4,h5⟩
 · cases h1
 · refine .inr ⟨rfl,by unfold bef at *; omega,h3,fun a b hab hz=>?_,h5⟩
   by_cases e:a = i∧b = j
   · rw [e.1,e.2]; exact hle
   · exact h4 a b (by unfold bef at *; omega) hz
theorem FS.new {n k i j p c:Nat} {M:Nat→Nat→Int} {fd:Bool} (h:FS n k i j M p c fd) (hi:k≤i) (hj:k≤j) (hjn:j < n) (hz:M i j ≠ 0) (hlt:fd = true→(M i j).natAbs < (M p c).natAbs):FS n k i (j + 1) M i j true:=by
 have key:∀ a b,bef n k i j a b→M a b ≠ 0→(M i j).natAbs < (M a b).natAbs:=by
  intro a b hab hab0
  rcases h with ⟨_,_,_,h4⟩ | ⟨h1,h2,h3,h4,h5⟩
  · exact absurd (h4 a b hab) hab0
  · exact Nat.lt_of_lt_of_le (hlt h1) (h4 a b hab hab0)
 refine .inr ⟨rfl,by unfold bef; omega,hz,fun a b hab hab0=>?_,key⟩
 by_cases e:a = i∧b = j
 · rw [e.1,e.2]; exact Nat.le_refl _
 · exact Nat.le_of_lt (key a b (by unfold bef at *; omega) hab0)
theorem cmpI_abs (a b:Int):cmpI ((a.natAbs:Nat):Int) ((b.natAbs:Nat):Int) < 0 ↔ a.natAbs < b.natAbs:=by
 unfold cmpI
 by_cases h:((a.natAbs:Nat):Int) < ((b.natAbs:Nat):Int)
 · rw [if_pos h]; exact ⟨fun _=>by omega,fun _=>by decide⟩
 · rw [if_neg h]
   refine ⟨fun g=>?_,fun g=>absurd (by omega) h⟩
   split at g <;> omega
set_option maxHeartbeats 16000000 in
theorem sfind_ok (v:Value) (n N k:Nat) (M:Nat→Nat→Int) (w:World) (h:MatE (EI N) w v n (fun _=>n) M) (hk:k≤n) (hn:n≤16) (hN:N < 137438953472) :
 Meets Tryz.prog 166 #[v,.int .i64 ((k:Nat):Int)] w fun u w'=>Ext w w'∧((∃ p c,u = .tuple #[.int .i64 ((p:Nat):Int),.int .i64 ((c:Nat):Int),.bool true]∧Go.Sm.Sel n k M p c) ∨ (u = .tuple #[.int .i64 ((0:Nat):Int),.int .i64 ((0:Nat):Int),.bool false]∧∀ i j,k≤i→i < n→k≤j→j < n→M i j = 0)):=by
 obtain ⟨Av,capv,hv,_⟩:=id h
 refine fn_W (n:=67) Tryz.func166 rfl rfl (by kernel_rfl) (by simp) ?_
 refine gg ?_
 refine W_seqM (fun f w'=>∃ p c fd,f 0 = v∧f 1 = .int .i64 ((k:Nat):Int)∧f 7 = .int .i64 ((p:Nat):Int)∧f 8 = .int .i64 ((c:Nat):Int)∧f 9 = .bool (fd)∧Ext w w'∧FS n k n 0 M p c fd) ?_ ?_
 · refine gg ?_
   refine W_loop (fun m f w'=>∃ i p c fd,m = n - i∧k≤i∧i≤n∧f 0 = v∧f 1 = .int .i64 ((k:Nat):Int)∧f 7 = .int .i64 ((p:Nat):Int)∧f 8 = .int .i64 ((c:Nat):Int)∧f 9 = .bool (fd)∧f 10 = .int .i64 ((i:Nat):Int)∧Ext w w'∧FS n k i 0 M p c fd)
    (n - k) ⟨k,0,0,false,rfl,Nat.le_refl _,hk,rfl,rfl,rfl,rfl,rfl,rfl,Ext.refl _,.inl ⟨rfl,rfl,rfl,fun a b h1=>by unfold bef at h1; omega⟩⟩ ?_
   rintro m f w1 ⟨i,p,c,fd,rfl,hki,hi,hf0,hf1,hf7,hf8,hf9,hf10,hX,hF⟩
   rw [ui hf0,ui hf1,ui hf7,ui hf8,ui hf9,ui hf10]
   clear hf0 hf1 hf7 hf8 hf9 hf10
   refine W_seq ?_
   by_cases hil:i < n
   rotate_left
   · rw [hv]
     refine gg ?_
     obtain rfl:i = n:=by omega
     exact ⟨p,c,fd,rfl,rfl,rfl,rfl,rfl,hX,hF⟩
   rw [hv]
   refine gg ?_
   rw [← hv]
   refine W_loop (fun m f w'=>∃ j p c fd,m = n - j∧k≤j∧j≤n∧f 0 = v∧f 1 = .int .i64 ((k:Nat):Int)∧f 7 = .int .i64 ((p:Nat):Int)∧f 8 = .int .i64 ((c:Nat):Int)∧f 9 = .bool (fd)∧f 10 = .int .i64 ((i:Nat):Int)∧f 11 = .int .i64 ((j:Nat):Int)∧Ext w w'∧FS n k i j M p c fd)
    (n - k) ⟨k,p,c,fd,rfl,Nat.le_refl _,hk,rfl,rfl,rfl,rfl,rfl,rfl,rfl,hX,hF.same (fun a b h1=>.inl (by unfold bef at *; omega)) (fun a b h1=>by unfold bef at *; omega)⟩ ?_
   clear hX hF
   rintro m f w2 ⟨j,p,c,fd,rfl,hkj,hj,hf0,hf1,hf7,hf8,hf9,hf10,hf11,hX,hF⟩
   rw [ui hf0,ui hf1,ui hf7,ui hf8,ui hf9,ui hf10,ui hf11]
   clear hf0 hf1 hf7 hf8 hf9 hf10 hf11
   refine W_seq ?_
   obtain ⟨ad,cap,u,hva,hcu,hru⟩:=(h.ext hX).at hil
   rw [hva]
   by_cases hjl:j < n
   rotate_left
   · obtain ⟨A',c',hu,_⟩:=id hru
     rw [hu] at hcu
     refine gg ?_
     rw [← hva]
     refine ⟨_,?_,i + 1,p,c,fd,rfl,by omega,by omega,rfl,rfl,rfl,rfl,rfl,rfl,hX,hF.same (fun a b h1=>.inl (by unfold bef at *; omega)) (fun a b h1=>by unfold bef at *; omega)⟩
     omega
   have hru':=hru
   obtain ⟨A',c',hu,_⟩:=id hru
   rw [hu] at hcu
   refine gg ?_
   clear hcu hru hru'
   rw [← hva]
   clear hva
   have hX:Ext w w2:=hX
   refine gg ?_
   refine W_seqD [(0,3),(1,3),(2,3),(3,0),(4,3),(5,3),(6,0),(7,1),(8,3),(9,3),(10,3),(11,3),(12,3),(13,3),(14,3),(15,3),(16,0),(17,3),(18,3),(19,0),(21,3),(22,3),(23,3),(24,0),(25,3),(26,3),(27,0),(20,1),(28,1),(29,1),(30,3),(31,3),(32,3)] mixed (by kernel_rfl) (fun w_1 hE_ _=>?_)
   replace hX:=hX.trans hE_
   clear hE_
   obtain ⟨ad,cap,u,hva,hcu,hru⟩:=(h.ext hX).at hil
   obtain ⟨ad',cap',e0,e1,rfl,hce0,hce1,hev'⟩:=hru.at hjl
   have hev:IV w_1 N e0 e1 (M i j):=hev'
   clear hev'
   rw [hva]
   by_cases hz:M i j = 0
   · have hs:(M i j).sign = 0:=by rw [hz]; rfl
     refine gg ?_
     refine R1_call1 (rsign_ok _ _ _ N w_1 hev (by omega)) ?_
     rintro _ w_2 ⟨hE_,rfl⟩
     refine ⟨hE_,?_⟩
     replace hev:=hev.ext hE_
     replace hX:=hX.trans hE_
     clear hE_
     refine gg ?_
     repeat refine Ro_noU rfl rfl rfl rfl ?_
     refine gg ?_
     rw [← hva]
     refine ⟨_,?_,j + 1,p,c,fd,rfl,by omega,by omega,rfl,rfl,rfl,rfl,rfl,rfl,rfl,hX,hF.skip hz⟩
     omega
   · have hs:¬ (M i j).sign = 0:=fun e=>hz (Int.sign_eq_zero_iff_zero.1 e)
     refine gg ?_
     refine R1_call1 (rsign_ok _ _ _ N w_1 hev (by omega)) ?_
     rintro _ w_3 ⟨hE_,rfl⟩
     refine ⟨hE_,?_⟩
     replace hev:=hev.ext hE_
     replace hX:=hX.trans hE_
     clear hE_
     cases fd with
     | false =>
      refine gg ?_
      rw [← hva]
      refine ⟨_,?_,j + 1,i,j,true,rfl,by omega,by omega,rfl,rfl,rfl,rfl,rfl,rfl,rfl,hX,hF.new hki hkj hjl hz (fun e=>by cases e)⟩
      omega
     | true =>
      have hpc:bef n k i j p c:=by
       rcases hF with ⟨e,_⟩ | ⟨_,e,_⟩
       · cases e
       · exact e
      have hpn:p < n:=by unfold bef at hpc; omega
      have hcn:c < n:=by unfold bef at hpc; omega
      clear hev hce0 hce1 hcu
      obtain ⟨ad1,cap1,u1,hva1,hcu1,hru1⟩:=(h.ext hX).at hil
      obtain ⟨ad1',cap1',e4,e5,rfl,hce4,hce5,hev1'⟩:=hru1.at hjl
      have hev:IV w_3 N e4 e5 (M i j):=hev1'
      obtain ⟨ad2,cap2,u2,hva2,hcu2,hru2⟩:=(h.ext hX).at hpn
      obtain ⟨ad2',cap2',e2,e3,rfl,hce2,hce3,hev2'⟩:=hru2.at hcn
      have hev2:IV w_3 N e2 e3 (M p c):=hev2'
      clear hev2' hev1' hru1 hru2
      have hadd:ad2 = ad∧cap2 = cap:=by
       rw [hva] at hva2
       injection hva2 with q1 q2 q3
       exact ⟨(Option.some.inj q1).symm,q3.symm⟩
      obtain ⟨rfl,rfl⟩:=hadd
      have hadd:ad1 = ad2∧cap1 = cap2:=by
       rw [hva2] at hva1
       injection hva1 with q1 q2 q3
       exact ⟨(Option.some.inj q1).symm,q3.symm⟩
      obtain ⟨rfl,rfl⟩:=hadd
      have hb1:=hev.bd
      have hb2:=hev2.bd
      have hba:∀ {z:Int},Bd N z→Bd N ((z.natAbs:Nat):Int):=fun hz=>by unfold Bd at *; omega
      refine gg ?_
      refine R1_call1 (rabs_ok _ _ _ N w_3 hev (by omega)) ?_
      rintro _ w_4 ⟨hE_,a1,b1,rfl,hc1'⟩
      refine ⟨hE_,?_⟩
      replace hev:=hev.ext hE_
      replace hev2:=hev2.ext hE_
      replace hX:=hX.trans hE_
      clear hE_
      refine gg ?_
      refine R1_call1 (rabs_ok _ _ _ N w_4 hev2 (by omega)) ?_
      rintro _ w_5 ⟨hE_,a2,b2,rfl,hc2'⟩
      refine ⟨hE_,?_⟩
      replace hev:=hev.ext hE_
      replace hev2:=hev2.ext hE_
      replace hc1':=hc1'.ext hE_
      replace hX:=hX.trans hE_
      clear hE_
      refine gg ?_
      refine R1_call1 (rcmpI_ok _ _ _ _ _ _ N w_5 (hc1'.iv (hba hb1)) (hc2'.iv (hba hb2)) hN) ?_
      rintro _ w_6 ⟨hE_,rfl⟩
      refine ⟨hE_,?_⟩
      replace hev:=hev.ext hE_
      replace hev2:=hev2.ext hE_
      replace hc1':=hc1'.ext hE_
      replace hc2':=hc2'.ext hE_
      replace hX:=hX.trans hE_
      clear hE_
      by_cases hlt:(M i j).natAbs < (M p c).natAbs
      · have hcm:=(cmpI_abs (M i j) (M p c)).2 hlt
        refine gg ?_
        rw [← hva]
        refine ⟨_,?_,j + 1,i,j,true,rfl,by omega,by omega,rfl,rfl,rfl,rfl,rfl,rfl,rfl,hX,hF.new hki hkj hjl hz (fun _=>hlt)⟩
        omega
      · have hcm:¬ cmpI (((M i j).natAbs:Nat):Int) (((M p c).natAbs:Nat):Int) < 0:=fun e=>hlt ((cmpI_abs (M i j) (M p c)).1 e)
        refine gg ?_
        rw [← hva]
        refine ⟨_,?_,j + 1,p,c,true,rfl,by omega,by omega,rfl,rfl,rfl,rfl,rfl,rfl,rfl,hX,hF.keep (by omega)⟩
        omega
 · rintro f w1 ⟨p,c,fd,hf0,hf1,hf7,hf8,hf9,hX,hF⟩
   rw [ui hf0,ui hf1,ui hf7,ui hf8,ui hf9]
   clear hf0 hf1 hf7 hf8 hf9
   refine gg ?_
   refine ret3 (v:=.int _ _) (v':=.int _ _) (v'':=.bool _) rfl rfl rfl rfl ⟨hX,?_⟩
   rcases hF with ⟨rfl,rfl,rfl,h4⟩ | ⟨rfl,h2,h3,h4,h5⟩
   · exact .inr ⟨rfl,fun i j h1 h2 h3 h5=>h4 i j (by unfold bef; omega)⟩
   · refine .inl ⟨p,c,rfl,?_⟩
     unfold bef at h2 h4 h5
     exact ⟨by omega,by omega,by omega,by omega,h3,fun i j g1 g2 g3 g4 hz=>h4 i j (by omega) hz,fun i j g1 g2 g3 g4 g5 hz=>h5 i j (by omega) hz⟩
end Go.Proofs.YtncbjgblcofddaaGreatDoor
namespace Go.Proofs.YtncbjgblcofddaaGreatDoor
open Go Go.Eng Go.Num Go.Proofs
open Go.Sm (rowP colP red addR swp Out Rd)
def RS (gs:Nat→Nat) (n:Nat):Nat→Prop:=fun b=>∃ i,i < n∧b = gs i
def rowQ (S:Nat→Nat→Int) (k i j:Nat):Nat→Nat→Int:=fun a b=>if k < a∧(a < i ∨ a = i∧b < j) then S a b - S a k / S k k * S k b else S a b
def colQ (R:Nat→Nat→Int) (k i j:Nat):Nat→Nat→Int:=fun a b=>if k < b∧(b < j ∨ b = j∧a < i) then R a b - R k b / R k k * R a k else R a b
def addQ (C:Nat→Nat→Int) (k i0 c:Nat):Nat→Nat→Int:=fun a b=>if a = k∧b < c then C k b + C i0 b else C a b
def RRe (w:World) (gO:Nat) (gs cp:Nat→Nat) (n k N:Nat) (S:Nat→Nat→Int) (v:Value) (w':World):Prop :=
 ∃ M' b,v = .bool b∧Out n k S M' b∧Ch (RS gs n) w w'∧Kp w w'∧GMat w' gO gs cp n n true (fun _ _=>N) M'
set_option maxHeartbeats 32000000 in
theorem sreduce_ok (gO n k N:Nat) (gs cp:Nat→Nat) (S:Nat→Nat→Int) (w:World) (hW:GMat w gO gs cp n n true (fun _ _=>N) S) (hk:k < n) (hn:n≤16) (hN1:1≤N) (hN:N≤34359738368) (hx:S k k ≠ 0)
 (b1:∀ a b,a < n→b < n→Bd N (rowP S k n a b)) (b2:∀ a b,a < n→b < n→Bd N (red S k n a b)) (b3:∀ i0,i0 < n→∀ a b,a < n→b < n→Bd N (addR (red S k n) k i0 a b)) :
 Meets Tryz.prog 167 #[.slice (some ⟨gO,0,none⟩) n n,.int .i64 ((k:Nat):Int)] w (RRe w gO gs cp n k N S):=by
 refine fn_W (n:=218) Tryz.func167 rfl rfl (by kernel_rfl) (by simp) ?_
 have b0:∀ a b,a < n→b < n→Bd N (S a b):=fun a b ha hb=>by
  obtain ⟨x,y,_,_,hv⟩:=(hW.row a ha).at hb
  exact hv.bd
 have hgl:∀ i,i < n→gs i < w.heap.size:=fun i hi=>(hW.row i hi).lt
 have hgO:=hW.lt
 refine gg ?_
 refine W_seqM (fun f w'=>∃ b,f 0 = .slice (some ⟨gO,0,none⟩) n n∧f 1 = .int .i64 ((k:Nat):Int)∧f 5 = .bool (b)∧Ch (RS gs n) w w'∧Kp w w'∧GMat w' gO gs cp n n true (fun _ _=>N) (rowP S k n)∧(b = true ↔ ∀ a,k < a→a < n→rowP S k n a k = 0)) ?_ ?_
 · refine gg ?_
   refine W_loop (fun m f w'=>∃ i b,m = n - i∧k < i∧i≤n∧f 0 = .slice (some ⟨gO,0,none⟩) n n∧f 1 = .int .i64 ((k:Nat):Int)∧f 5 = .bool (b)∧f 6 = .int .i64 ((i:Nat):Int)∧Ch (RS gs n) w w'∧Kp w w'∧GMat w' gO gs cp n n true (fun _ _=>N) (rowP S k i)∧(b = true ↔ ∀ a,k < a→a < i→rowP S k n a k = 0))
    (n - (k + 1)) ⟨k + 1,true,rfl,by omega,by omega,rfl,rfl,rfl,rfl,(Ext.refl w).mono fun _ _ h=>h.elim,kp_ext (Ext.refl w),hW.congr (fun a b _ _=>⟨Nat.le_refl _,by unfold Go.Sm.rowP; rw [if_neg (by omega)]⟩),⟨fun _ a h1 h2=>absurd h1 (by omega),fun _=>rfl⟩⟩ ?_
   clear hW
   rintro m f w1 ⟨i,b,rfl,hki,hi,hf0,hf1,hf5,hf6,hC,hK,hW,hb⟩
   rw [ui hf0,ui hf1,ui hf5,ui hf6]
   clear hf0 hf1 hf5 hf6
   refine W_seq ?_
   by_cases hil:i < n
   rotate_left
   · obtain rfl:i = n:=by omega
     refine gg ?_
     exact ⟨b,rfl,rfl,rfl,hC,hK,hW,hb⟩
   refine gg ?_
   have hs1:=hC.size
   have hX:Ext w1 w1:=Ext.refl w1
   refine gg ?_
   refine W_seqG [(0,3),(1,3),(2,3),(3,0),(4,3),(5,3),(6,0),(7,3),(8,3),(9,3),(10,0),(11,3),(12,3),(13,0)] [(14,[],[]),(15,[],[])] [(16,2)] mixed (by kernel_rfl) (fun w_1 hE_ _=>?_)
   replace hW:=hW.ext hE_
   replace hX:=hX.trans hE_
   clear hE_
   have hoi:=hW.at hil
   have hok:=hW.at hk
   obtain ⟨x0,y0,hx0,hy0,hv0⟩:=(hW.row i hil).at hk
   obtain ⟨x1,y1,hx1,hy1,hv1⟩:=(hW.row k hk).at hk
   have e0:rowP S k i i k = S i k:=by unfold Go.Sm.rowP; rw [if_neg (by omega)]
   have e1:rowP S k i k k = S k k:=by unfold Go.Sm.rowP; rw [if_neg (by omega)]
   rw [e0] at hv0
   rw [e1] at hv1
   replace hv0:=hv0.1
   replace hv1:=hv1.1
   refine gg ?_
   refine gg ?_
   refine Rg_float [(14,[])] [fA 15 7 41 (.agg #[.bool false,.slice none 0 0])] [37,7] (by kernel_rfl) (fun a ha f' w' _ _=>by
    rcases List.mem_singleton.1 ha with rfl
    exact flt_alloc z_Int rfl f' w') ?_
   have hszq:=hX.size
   clear hoi hok hx0 hx1 hy0 hy1
   refine gg ?_
   refine Rc_cons (fun w_2 hE_=>?_)
   replace hW:=hW.ext hE_
   replace hv0:=hv0.ext hE_
   replace hv1:=hv1.ext hE_
   replace hX:=hX.trans hE_
   clear hE_
   refine gg ?_
   refine R1_call1 (rquo_ok _ _ _ _ _ _ N w_2 hv0 hv1 (by omega)) ?_
   rintro _ w_3 ⟨hE_,a0,a1,rfl,hq⟩
   refine ⟨hE_,?_⟩
   replace hW:=hW.ext hE_
   replace hv0:=hv0.ext hE_
   replace hv1:=hv1.ext hE_
   replace hX:=hX.trans hE_
   clear hE_
   refine gg ?_
   refine Rc_nil (fun w_4 hE_ bs hbs hdis=>?_)
   replace hW:=hW.ext hE_
   replace hv0:=hv0.ext hE_
   replace hv1:=hv1.ext hE_
   replace hq:=hq.ext hE_
   replace hX:=hX.trans hE_
   clear hE_
   obtain ⟨hge_gF,hB_gF⟩:=hbs _ List.mem_cons_self
   have hge_gF:w_1.heap.size≤bs 7:=hge_gF
   have hF:Bx w_4 (bs 7) 1 true 0:=Bx.zero true hB_gF
   show Ro _ _ _ _ _ _ (upd _ 7 (.pointer (some ⟨bs 7,0,none⟩))) _
   generalize bs 7 = gF at *
   have hfr_gF:w1.heap.size≤gF:=by omega
   clear hbs hdis hszq hB_gF hge_gF
   have bq:Bd N (S i k / S k k):=(b0 i k hil hk).ediv
   refine gg ?_
   refine R1_storeBx (by first | exact .inl rfl | exact .inr ⟨rfl,fun _ h=>h.mono fun b _ e=>by omega⟩) rfl rfl hF (hq.ev true bq) ?_
   intro w_5 hF hC_ hk_ hs_
   replace hW:=hW.kp hk_ hC_ (by omega) (fun i hi=>by have:=hgl i hi; omega)
   replace hv0:=hv0.kp hk_
   replace hv1:=hv1.kp hk_
   replace hq:=hq.kp hk_
   replace hX:=hC_.ext_of hX (fun b hb=>by omega)
   clear hC_ hk_ hs_
   clear hv0 hv1 hq
   have hgF:w.heap.size≤gF:=by omega
   refine gg ?_
   refine W_seqM (fun f w'=>f 0 = .slice (some ⟨gO,0,none⟩) n n∧f 1 = .int .i64 ((k:Nat):Int)∧f 5 = .bool (b)∧f 6 = .int .i64 ((i:Nat):Int)∧f 7 = .pointer (some ⟨gF,0,none⟩)∧Ch (RS gs n) w w'∧Kp w w'∧GMat w' gO gs cp n n true (fun _ _=>N) (rowQ S k i n)) ?_ ?_
   · have hoi:=hW.at hil
     refine gg ?_
     clear hoi
     refine W_loop (fun m f w'=>∃ j,m = n - j∧j≤n∧f 0 = .slice (some ⟨gO,0,none⟩) n n∧f 1 = .int .i64 ((k:Nat):Int)∧f 5 = .bool (b)∧f 6 = .int .i64 ((i:Nat):Int)∧f 7 = .pointer (some ⟨gF,0,none⟩)∧f 42 = .int .i64 ((n:Nat):Int)∧f 43 = .int .i64 ((j:Nat):Int)∧Ch (RS gs n) w w'∧Kp w w'∧GMat w' gO gs cp n n true (fun _ _=>N) (rowQ S k i j)∧Bx w' gF N true (S i k / S k k))
      n ⟨0,rfl,Nat.zero_le _,rfl,rfl,rfl,rfl,rfl,rfl,rfl,hC.trans (hX.mono fun _ _ h=>h.elim),hK.trans (kp_ext hX),hW.congr (fun a b _ _=>⟨Nat.le_refl _,by unfold Go.Sm.rowP rowQ; congr 1; exact propext (by omega)⟩),hF⟩ ?_
     clear hW hF hC hK hX
     rintro m f w2 ⟨j,rfl,hj,hf0,hf1,hf5,hf6,hf7,hf42,hf43,hC,hK,hW,hF⟩
     rw [ui hf0,ui hf1,ui hf5,ui hf6,ui hf7,ui hf42,ui hf43]
     clear hf0 hf1 hf5 hf6 hf7 hf42 hf43
     by_cases hjl:j < n
     rotate_left
     · obtain rfl:j = n:=by omega
       refine gg ?_
       exact ⟨rfl,rfl,rfl,rfl,rfl,hC,hK,hW⟩
     have hs2:=hC.size
     have hX:Ext w2 w2:=Ext.refl w2
     refine gg ?_
     refine gg ?_
     refine W_regD [(0,3),(1,3),(2,3),(3,0),(4,3),(5,3),(6,3),(7,3),(8,0),(9,3),(10,3),(11,0),(12,0),(13,3),(14,3),(15,3),(16,0),(17,3),(18,3),(19,0),(20,1),(21,1),(22,3),(23,2)] mixed (by kernel_rfl) (fun w_6 hE_ _=>?_)
     replace hW:=hW.ext hE_
     replace hF:=hF.ext hE_
     replace hX:=hX.trans hE_
     clear hE_
     have hoi:=hW.at hil
     have hok:=hW.at hk
     obtain ⟨x0,y0,hx0,hy0,hv0⟩:=(hW.row i hil).at hjl
     obtain ⟨x1,y1,hx1,hy1,hv1⟩:=(hW.row k hk).at hjl
     have e0:rowQ S k i j i j = S i j:=by unfold rowQ; rw [if_neg (by omega)]
     have e1:rowQ S k i j k j = S k j:=by unfold rowQ; rw [if_neg (by omega)]
     rw [e0] at hv0
     rw [e1] at hv1
     replace hv0:=hv0.1
     replace hv1:=hv1.1
     obtain ⟨hF_u,hF_v,hF_B,hF_V⟩:=id hF
     obtain ⟨hF_0,hF_1⟩:=blkP hF_B
     have vF:=hF_V.1
     refine gg ?_
     refine R1_call1 (rmul_ok _ _ _ _ _ _ N w_6 vF hv1 (by omega)) ?_
     rintro _ w_7 ⟨hE_,a0,a1,rfl,hm⟩
     refine ⟨hE_,?_⟩
     replace hW:=hW.ext hE_
     replace hF:=hF.ext hE_
     replace hv0:=hv0.ext hE_
     replace hv1:=hv1.ext hE_
     replace vF:=vF.ext hE_
     replace hX:=hX.trans hE_
     clear hE_
     have bm:=bq.mul (b0 k j hk hjl)
     refine gg ?_
     refine R1_call1 (rsub_ok _ _ _ _ _ _ (N + N) w_7 (hv0.mono (by omega)) (hm.iv bm) (by omega)) ?_
     rintro _ w_8 ⟨hE_,a2,a3,rfl,hd⟩
     refine ⟨hE_,?_⟩
     replace hW:=hW.ext hE_
     replace hF:=hF.ext hE_
     replace hv0:=hv0.ext hE_
     replace hv1:=hv1.ext hE_
     replace vF:=vF.ext hE_
     replace hm:=hm.ext hE_
     replace hX:=hX.trans hE_
     clear hE_
     have bd:Bd N (S i j - S i k / S k k * S k j):=by
      have:=b1 i j hil hjl
      unfold Go.Sm.rowP at this
      rwa [if_pos ⟨hki,hil⟩] at this
     clear hoi hok hx0 hx1 hy0 hy1 hF_0 hF_1 hv0 hv1 vF hm
     refine gg ?_
     refine R1_storeG (.inl rfl) rfl rfl (hW.row i hil) hjl (hd.ev true bd) ?_
     intro w3 hR hC_ hk_ hs_
     replace hW:=hW.put hil hR hC_ hk_
     replace hF:=hF.kp hk_ hC_ (by have:=hgl i hil; omega)
     replace hC:=hC.trans ((hX.mono fun _ _ h=>h.elim).trans (hC_.mono fun b _ e=>⟨i,hil,e⟩))
     replace hK:=hK.trans ((kp_ext hX).trans hk_)
     clear hX hR hC_ hk_ hs_ hd
     refine gg ?_
     refine ⟨_,?_,j + 1,rfl,hjl,rfl,rfl,rfl,rfl,rfl,rfl,rfl,hC,hK,hW.congr (fun a b _ _=>⟨?_,?_⟩),hF⟩
     · omega
     · simp only [set2]; split <;> exact Nat.le_refl _
     · simp only [set2]
       unfold rowQ
       by_cases e:a = i∧b = j
       · obtain ⟨rfl,rfl⟩:=e
         rw [if_pos ⟨rfl,rfl⟩,if_pos (by omega)]
       · rw [if_neg e]
         congr 1
         exact propext (by omega)
   clear hW hF hC hK hX
   rintro f w2 ⟨hf0,hf1,hf5,hf6,hf7,hC,hK,hW⟩
   rw [ui hf0,ui hf1,ui hf5,ui hf6,ui hf7]
   clear hf0 hf1 hf5 hf6 hf7
   have hs2:=hC.size
   have hX:Ext w2 w2:=Ext.refl w2
   have evk:∀ a,k < a→a < n→rowP S k n a k = rowP S k (a + 1) a k:=fun a h1 h2=>by unfold Go.Sm.rowP; rw [if_pos ⟨h1,h2⟩,if_pos ⟨h1,by omega⟩]
   cases b with
   | false =>
    refine gg ?_
    refine ⟨_,?_,i + 1,false,rfl,by omega,by omega,rfl,rfl,rfl,rfl,hC,hK,hW.congr (fun a b _ _=>⟨Nat.le_refl _,by unfold Go.Sm.rowP rowQ; congr 1; exact propext (by omega)⟩),⟨fun e=>(by cases e),fun e=>?_⟩⟩
    · omega
    · exact hb.2 fun a h1 h2=>e a h1 (by omega)
   | true =>
    have hoi:=hW.at hil
    obtain ⟨x0,y0,hx0,hy0,hv0⟩:=(hW.row i hil).at hk
    replace hv0:=hv0.1
    obtain ⟨z,hz⟩ : ∃ z,z = rowQ S k i n i k:=⟨_,rfl⟩
    have hz2:z = rowP S k n i k:=by rw [hz]; unfold rowQ Go.Sm.rowP; rw [if_pos (by omega),if_pos ⟨hki,hil⟩]
    rw [← hz] at hv0
    refine gg ?_
    refine R1_call2 (rsign_ok _ _ _ N w2 hv0 (by omega)) ?_
    rintro _ w_9 ⟨hE_,rfl⟩
    replace hW:=hW.ext hE_
    replace hX:=hX.trans hE_
    clear hE_
    clear hoi hx0 hy0
    refine gg ?_
    refine ⟨_,?_,i + 1,_,rfl,by omega,by omega,rfl,rfl,rfl,rfl,hC.trans (hX.mono fun _ _ h=>h.elim),hK.trans (kp_ext hX),hW.congr (fun a b _ _=>⟨Nat.le_refl _,by unfold Go.Sm.rowP rowQ; congr 1; exact propext (by omega)⟩),?_⟩
    · omega
    · have hsz:z.sign = 0 ↔ z = 0:=Int.sign_eq_zero_iff_zero
      rw [decide_eq_true_iff,hsz]
      constructor
      · intro e a h1 h2
        by_cases e2:a = i
        · subst e2; rw [← hz2]; exact e
        · exact (hb.1 rfl) a h1 (by omega)
      · intro e
        rw [hz2]; exact e i hki (by omega)
 clear hW
 rintro f w1 ⟨b,hf0,hf1,hf5,hC,hK,hW,hb⟩
 rw [ui hf0,ui hf1,ui hf5]
 clear hf0 hf1 hf5
 obtain ⟨R,hR⟩ : ∃ R,R = rowP S k n:=⟨_,rfl⟩
 have hRk:∀ j,R k j = S k j:=fun j=>by rw [hR]; exact Go.Sm.rowP_k S k n j
 have hred:red S k n = colP R k n:=by rw [hR]; rfl
 rw [← hR] at hW hb b1
 refine W_seqM (fun f w'=>∃ b,f 0 = .slice (some ⟨gO,0,none⟩) n n∧f 1 = .int .i64 ((k:Nat):Int)∧f 5 = .bool (b)∧Ch (RS gs n) w w'∧Kp w w'∧GMat w' gO gs cp n n true (fun _ _=>N) (red S k n)∧(b = true ↔ Go.Sm.Clean n k (red S k n))) ?_ ?_
 · refine gg ?_
   refine W_loop (fun m f w'=>∃ j b,m = n - j∧k < j∧j≤n∧f 0 = .slice (some ⟨gO,0,none⟩) n n∧f 1 = .int .i64 ((k:Nat):Int)∧f 5 = .bool (b)∧f 9 = .int .i64 ((j:Nat):Int)∧Ch (RS gs n) w w'∧Kp w w'∧GMat w' gO gs cp n n true (fun _ _=>N) (colP R k j)∧(b = true ↔ (∀ a,k < a→a < n→R a k = 0)∧∀ c,k < c→c < j→red S k n k c = 0))
    (n - (k + 1)) ⟨k + 1,b,rfl,by omega,by omega,rfl,rfl,rfl,rfl,hC,hK,hW.congr (fun a b _ _=>⟨Nat.le_refl _,by unfold Go.Sm.colP; rw [if_neg (by omega)]⟩),⟨fun e=>⟨hb.1 e,fun c h1 h2=>absurd h1 (by omega)⟩,fun e=>hb.2 e.1⟩⟩ ?_
   clear hW hC hK hb b
   rintro m f w1 ⟨j,b,rfl,hkj,hj,hf0,hf1,hf5,hf9,hC,hK,hW,hb⟩
   rw [ui hf0,ui hf1,ui hf5,ui hf9]
   clear hf0 hf1 hf5 hf9
   refine W_seq ?_
   have hok:=hW.at hk
   by_cases hjl:j < n
   rotate_left
   · obtain rfl:j = n:=by omega
     refine gg ?_
     rw [← hred] at hW
     refine ⟨b,rfl,rfl,rfl,hC,hK,hW,hb.trans ⟨fun e=>⟨fun a h1 h2=>?_,e.2⟩,fun e=>⟨fun a h1 h2=>?_,e.2⟩⟩⟩
     · rw [hred]; unfold Go.Sm.colP; rw [if_neg (by omega)]; exact e.1 a h1 h2
     · have:=e.1 a h1 h2
       rw [hred] at this; unfold Go.Sm.colP at this; rwa [if_neg (by omega)] at this
   refine gg ?_
   clear hok
   have hs1:=hC.size
   have hX:Ext w1 w1:=Ext.refl w1
   refine gg ?_
   refine W_seqG [(0,3),(1,3),(2,3),(3,0),(4,3),(5,3),(6,0),(7,3),(8,3),(9,3),(10,0),(11,3),(12,3),(13,0)] [(14,[],[]),(15,[],[])] [(16,2)] mixed (by kernel_rfl) (fun w_10 hE_ _=>?_)
   replace hW:=hW.ext hE_
   replace hX:=hX.trans hE_
   clear hE_
   have hok:=hW.at hk
   obtain ⟨x0,y0,hx0,hy0,hv0⟩:=(hW.row k hk).at hjl
   obtain ⟨x1,y1,hx1,hy1,hv1⟩:=(hW.row k hk).at hk
   have e0:colP R k j k j = R k j:=by unfold Go.Sm.colP; rw [if_neg (by omega)]
   have e1:colP R k j k k = R k k:=by unfold Go.Sm.colP; rw [if_neg (by omega)]
   rw [e0] at hv0
   rw [e1] at hv1
   replace hv0:=hv0.1
   replace hv1:=hv1.1
   refine gg ?_
   refine gg ?_
   refine Rg_float [(14,[])] [fA 15 10 41 (.agg #[.bool false,.slice none 0 0])] [107,10] (by kernel_rfl) (fun a ha f' w' _ _=>by
    rcases List.mem_singleton.1 ha with rfl
    exact flt_alloc z_Int rfl f' w') ?_
   have hszq:=hX.size
   clear hok hx0 hx1 hy0 hy1
   refine gg ?_
   refine Rc_cons (fun w_11 hE_=>?_)
   replace hW:=hW.ext hE_
   replace hv0:=hv0.ext hE_
   replace hv1:=hv1.ext hE_
   replace hX:=hX.trans hE_
   clear hE_
   refine gg ?_
   refine R1_call1 (rquo_ok _ _ _ _ _ _ N w_11 hv0 hv1 (by omega)) ?_
   rintro _ w_12 ⟨hE_,a0,a1,rfl,hq⟩
   refine ⟨hE_,?_⟩
   replace hW:=hW.ext hE_
   replace hv0:=hv0.ext hE_
   replace hv1:=hv1.ext hE_
   replace hX:=hX.trans hE_
   clear hE_
   refine gg ?_
   refine Rc_nil (fun w_13 hE_ bs hbs hdis=>?_)
   replace hW:=hW.ext hE_
   replace hv0:=hv0.ext hE_
   replace hv1:=hv1.ext hE_
   replace hq:=hq.ext hE_
   replace hX:=hX.trans hE_
   clear hE_
   obtain ⟨hge_gF,hB_gF⟩:=hbs _ List.mem_cons_self
   have hge_gF:w_10.heap.size≤bs 10:=hge_gF
   have hF:Bx w_13 (bs 10) 1 true 0:=Bx.zero true hB_gF
   show Ro _ _ _ _ _ _ (upd _ 10 (.pointer (some ⟨bs 10,0,none⟩))) _
   generalize bs 10 = gF at *
   have hfr_gF:w1.heap.size≤gF:=by omega
   clear hbs hdis hszq hB_gF hge_gF
   have bq:Bd N (R k j / R k k):=(b1 k j hk hjl).ediv
   refine gg ?_
   refine R1_storeBx (by first | exact .inl rfl | exact .inr ⟨rfl,fun _ h=>h.mono fun b _ e=>by omega⟩) rfl rfl hF (hq.ev true bq) ?_
   intro w_14 hF hC_ hk_ hs_
   replace hW:=hW.kp hk_ hC_ (by omega) (fun i hi=>by have:=hgl i hi; omega)
   replace hv0:=hv0.kp hk_
   replace hv1:=hv1.kp hk_
   replace hq:=hq.kp hk_
   replace hX:=hC_.ext_of hX (fun b hb=>by omega)
   clear hC_ hk_ hs_
   clear hv0 hv1 hq
   have hgF:w.heap.size≤gF:=by omega
   refine gg ?_
   refine W_seqM (fun f w'=>f 0 = .slice (some ⟨gO,0,none⟩) n n∧f 1 = .int .i64 ((k:Nat):Int)∧f 5 = .bool (b)∧f 9 = .int .i64 ((j:Nat):Int)∧f 10 = .pointer (some ⟨gF,0,none⟩)∧Ch (RS gs n) w w'∧Kp w w'∧GMat w' gO gs cp n n true (fun _ _=>N) (colQ R k n j)) ?_ ?_
   · refine gg ?_
     refine W_loop (fun m f w'=>∃ i,m = n - i∧i≤n∧f 0 = .slice (some ⟨gO,0,none⟩) n n∧f 1 = .int .i64 ((k:Nat):Int)∧f 5 = .bool (b)∧f 9 = .int .i64 ((j:Nat):Int)∧f 10 = .pointer (some ⟨gF,0,none⟩)∧f 109 = .int .i64 ((n:Nat):Int)∧f 110 = .int .i64 ((i:Nat):Int)∧Ch (RS gs n) w w'∧Kp w w'∧GMat w' gO gs cp n n true (fun _ _=>N) (colQ R k i j)∧Bx w' gF N true (R k j / R k k))
      n ⟨0,rfl,Nat.zero_le _,rfl,rfl,rfl,rfl,rfl,rfl,rfl,hC.trans (hX.mono fun _ _ h=>h.elim),hK.trans (kp_ext hX),hW.congr (fun a b _ _=>⟨Nat.le_refl _,by unfold Go.Sm.colP colQ; congr 1; exact propext (by omega)⟩),hF⟩ ?_
     clear hW hF hC hK hX
     rintro m f w2 ⟨i,rfl,hi,hf0,hf1,hf5,hf9,hf10,hf109,hf110,hC,hK,hW,hF⟩
     rw [ui hf0,ui hf1,ui hf5,ui hf9,ui hf10,ui hf109,ui hf110]
     clear hf0 hf1 hf5 hf9 hf10 hf109 hf110
     by_cases hil:i < n
     rotate_left
     · obtain rfl:i = n:=by omega
       refine gg ?_
       exact ⟨rfl,rfl,rfl,rfl,rfl,hC,hK,hW⟩
     have hs2:=hC.size
     have hX:Ext w2 w2:=Ext.refl w2
     refine gg ?_
     refine gg ?_
     refine W_regD [(0,3),(1,3),(2,3),(3,0),(4,3),(5,3),(6,3),(7,3),(8,0),(9,3),(10,3),(11,0),(12,0),(13,3),(14,3),(15,3),(16,0),(17,3),(18,3),(19,0),(20,1),(21,1),(22,3),(23,2)] mixed (by kernel_rfl) (fun w_15 hE_ _=>?_)
     replace hW:=hW.ext hE_
     replace hF:=hF.ext hE_
     replace hX:=hX.trans hE_
     clear hE_
     have hoi:=hW.at hil
     obtain ⟨x0,y0,hx0,hy0,hv0⟩:=(hW.row i hil).at hjl
     obtain ⟨x1,y1,hx1,hy1,hv1⟩:=(hW.row i hil).at hk
     have e0:colQ R k i j i j = R i j:=by unfold colQ; rw [if_neg (by omega)]
     have e1:colQ R k i j i k = R i k:=by unfold colQ; rw [if_neg (by omega)]
     rw [e0] at hv0
     rw [e1] at hv1
     replace hv0:=hv0.1
     replace hv1:=hv1.1
     obtain ⟨hF_u,hF_v,hF_B,hF_V⟩:=id hF
     obtain ⟨hF_0,hF_1⟩:=blkP hF_B
     have vF:=hF_V.1
     refine gg ?_
     refine R1_call1 (rmul_ok _ _ _ _ _ _ N w_15 vF hv1 (by omega)) ?_
     rintro _ w_16 ⟨hE_,a0,a1,rfl,hm⟩
     refine ⟨hE_,?_⟩
     replace hW:=hW.ext hE_
     replace hF:=hF.ext hE_
     replace hv0:=hv0.ext hE_
     replace hv1:=hv1.ext hE_
     replace vF:=vF.ext hE_
     replace hX:=hX.trans hE_
     clear hE_
     have bm:=bq.mul (b1 i k hil hk)
     refine gg ?_
     refine R1_call1 (rsub_ok _ _ _ _ _ _ (N + N) w_16 (hv0.mono (by omega)) (hm.iv bm) (by omega)) ?_
     rintro _ w_17 ⟨hE_,a2,a3,rfl,hd⟩
     refine ⟨hE_,?_⟩
     replace hW:=hW.ext hE_
     replace hF:=hF.ext hE_
     replace hv0:=hv0.ext hE_
     replace hv1:=hv1.ext hE_
     replace vF:=vF.ext hE_
     replace hm:=hm.ext hE_
     replace hX:=hX.trans hE_
     clear hE_
     have bd:Bd N (R i j - R k j / R k k * R i k):=by
      have:=b2 i j hil hjl
      rw [hred] at this
      unfold Go.Sm.colP at this
      rwa [if_pos ⟨hkj,hjl⟩] at this
     clear hoi hx0 hx1 hy0 hy1 hF_0 hF_1 hv0 hv1 vF hm
     refine gg ?_
     refine R1_storeG (.inl rfl) rfl rfl (hW.row i hil) hjl (hd.ev true bd) ?_
     intro w3 hR3 hC_ hk_ hs_
     replace hW:=hW.put hil hR3 hC_ hk_
     replace hF:=hF.kp hk_ hC_ (by have:=hgl i hil; omega)
     replace hC:=hC.trans ((hX.mono fun _ _ h=>h.elim).trans (hC_.mono fun b _ e=>⟨i,hil,e⟩))
     replace hK:=hK.trans ((kp_ext hX).trans hk_)
     clear hX hR3 hC_ hk_ hs_ hd
     refine gg ?_
     refine ⟨_,?_,i + 1,rfl,hil,rfl,rfl,rfl,rfl,rfl,rfl,rfl,hC,hK,hW.congr (fun a b _ _=>⟨?_,?_⟩),hF⟩
     · omega
     · simp only [set2]; split <;> exact Nat.le_refl _
     · simp only [set2]
       unfold colQ
       by_cases e:a = i∧b = j
       · obtain ⟨rfl,rfl⟩:=e
         rw [if_pos ⟨rfl,rfl⟩,if_pos (by omega)]
       · rw [if_neg e]
         congr 1
         exact propext (by omega)
   clear hW hF hC hK hX
   rintro f w2 ⟨hf0,hf1,hf5,hf9,hf10,hC,hK,hW⟩
   rw [ui hf0,ui hf1,ui hf5,ui hf9,ui hf10]
   clear hf0 hf1 hf5 hf9 hf10
   have hs2:=hC.size
   have hX:Ext w2 w2:=Ext.refl w2
   cases b with
   | false =>
    refine gg ?_
    refine ⟨_,?_,j + 1,false,rfl,by omega,by omega,rfl,rfl,rfl,rfl,hC,hK,hW.congr (fun a b _ _=>⟨Nat.le_refl _,by unfold Go.Sm.colP colQ; congr 1; exact propext (by omega)⟩),⟨fun e=>(by cases e),fun e=>?_⟩⟩
    · omega
    · exact hb.2 ⟨e.1,fun a h1 h2=>e.2 a h1 (by omega)⟩
   | true =>
    have hok:=hW.at hk
    obtain ⟨x0,y0,hx0,hy0,hv0⟩:=(hW.row k hk).at hjl
    replace hv0:=hv0.1
    obtain ⟨z,hz⟩ : ∃ z,z = colQ R k n j k j:=⟨_,rfl⟩
    have hz2:z = red S k n k j:=by rw [hz,hred]; unfold colQ Go.Sm.colP; rw [if_pos (by omega),if_pos ⟨hkj,hjl⟩]
    rw [← hz] at hv0
    refine gg ?_
    refine R1_call2 (rsign_ok _ _ _ N w2 hv0 (by omega)) ?_
    rintro _ w_18 ⟨hE_,rfl⟩
    replace hW:=hW.ext hE_
    replace hX:=hX.trans hE_
    clear hE_
    clear hok hx0 hy0
    refine gg ?_
    refine ⟨_,?_,j + 1,_,rfl,by omega,by omega,rfl,rfl,rfl,rfl,hC.trans (hX.mono fun _ _ h=>h.elim),hK.trans (kp_ext hX),hW.congr (fun a b _ _=>⟨Nat.le_refl _,by unfold Go.Sm.colP colQ; congr 1; exact propext (by omega)⟩),?_⟩
    · omega
    · have hsz:z.sign = 0 ↔ z = 0:=Int.sign_eq_zero_iff_zero
      rw [decide_eq_true_iff,hsz]
      constructor
      · intro e
        refine ⟨(hb.1 rfl).1,fun a h1 h2=>?_⟩
        by_cases e2:a = j
        · subst e2; rw [← hz2]; exact e
        · exact (hb.1 rfl).2 a h1 (by omega)
      · intro e
        rw [hz2]; exact e.2 j hkj (by omega)
 clear hW hC hK hb b
 rintro f w1 ⟨b,hf0,hf1,hf5,hC,hK,hW,hb⟩
 rw [ui hf0,ui hf1,ui hf5]
 clear hf0 hf1 hf5
 cases b with
 | false =>
  have hncl:¬ Go.Sm.Clean n k (red S k n):=fun e=>by have:=hb.2 e; cases this
  refine gg ?_
  refine W_seq ?_
  refine gg ?_
  refine W_loop (fun m f w'=>f 5 = .bool false∧f 12 = .int .i64 (((k + 1:Nat):Nat):Int)∧f 0 = .slice (some ⟨gO,0,none⟩) n n∧w' = w1) 0 ⟨rfl,rfl,rfl,rfl⟩ ?_
  rintro m f w2 ⟨hf5,hf12,hf0,rfl⟩
  rw [ui hf5,ui hf12,ui hf0]
  refine W_seq ?_
  by_cases hk1:k + 1 < n
  · refine gg ?_
    exact ret1 (v:=.bool _) rfl rfl ⟨_,_,rfl,.left hncl,hC,hK,hW⟩
  · refine gg ?_
    exact ret1 (v:=.bool _) rfl rfl ⟨_,_,rfl,.left hncl,hC,hK,hW⟩
 | true =>
  have hcl:=hb.1 rfl
  clear hb
  obtain ⟨C,hCd⟩ : ∃ C,C = red S k n:=⟨_,rfl⟩
  have hkk:C k k = S k k:=by rw [hCd]; exact Go.Sm.red_kk S k n
  rw [← hCd] at hcl hW b2
  have hxC:C k k ≠ 0:=by rw [hkk]; exact hx
  refine W_seqM (fun f w'=>f 5 = .bool true∧Ch (RS gs n) w w'∧Kp w w'∧GMat w' gO gs cp n n true (fun _ _=>N) C∧∀ a c,k < a→a < n→k < c→c < n→C k k ∣ C a c) ?_ ?_
  · refine gg ?_
    refine W_loop (fun m f w'=>∃ i,m = n - i∧k < i∧i≤n∧f 0 = .slice (some ⟨gO,0,none⟩) n n∧f 1 = .int .i64 ((k:Nat):Int)∧f 5 = .bool true∧f 12 = .int .i64 ((i:Nat):Int)∧Ch (RS gs n) w w'∧Kp w w'∧GMat w' gO gs cp n n true (fun _ _=>N) C∧∀ a c,k < a→a < i→k < c→c < n→C k k ∣ C a c)
     (n - (k + 1)) ⟨k + 1,rfl,by omega,by omega,rfl,rfl,rfl,rfl,hC,hK,hW,fun a c h1 h2=>absurd h1 (by omega)⟩ ?_
    clear hC hK hW
    rintro m f w2 ⟨i,rfl,hki,hi,hf0,hf1,hf5,hf12,hC,hK,hW,hdv⟩
    rw [ui hf0,ui hf1,ui hf5,ui hf12]
    clear hf0 hf1 hf5 hf12
    refine W_seq ?_
    by_cases hil:i < n
    rotate_left
    · obtain rfl:i = n:=by omega
      refine gg ?_
      exact ⟨rfl,hC,hK,hW,hdv⟩
    refine gg ?_
    refine W_loop (fun m f w'=>∃ j,m = n - j∧k < j∧j≤n∧f 0 = .slice (some ⟨gO,0,none⟩) n n∧f 1 = .int .i64 ((k:Nat):Int)∧f 5 = .bool true∧f 12 = .int .i64 ((i:Nat):Int)∧f 13 = .int .i64 ((j:Nat):Int)∧Ch (RS gs n) w w'∧Kp w w'∧GMat w' gO gs cp n n true (fun _ _=>N) C∧∀ c,k < c→c < j→C k k ∣ C i c)
     (n - (k + 1)) ⟨k + 1,rfl,by omega,by omega,rfl,rfl,rfl,rfl,rfl,hC,hK,hW,fun c h1 h2=>absurd h1 (by omega)⟩ ?_
    clear hC hK hW
    rintro m f w3 ⟨j,rfl,hkj,hj,hf0,hf1,hf5,hf12,hf13,hC,hK,hW,hdr⟩
    rw [ui hf0,ui hf1,ui hf5,ui hf12,ui hf13]
    clear hf0 hf1 hf5 hf12 hf13
    refine W_seq ?_
    have hoi:=hW.at hil
    by_cases hjl:j < n
    rotate_left
    · obtain rfl:j = n:=by omega
      refine gg ?_
      refine ⟨_,?_,i + 1,rfl,by omega,by omega,rfl,rfl,rfl,rfl,hC,hK,hW,fun a c h1 h2 h3 h4=>?_⟩
      · omega
      · by_cases e:a = i
        · subst e; exact hdr c h3 h4
        · exact hdv a c h1 (by omega) h3 h4
    refine gg ?_
    clear hoi
    have hs3:=hC.size
    have hX:Ext w3 w3:=Ext.refl w3
    refine gg ?_
    refine W_seqD [(0,3),(1,3),(2,3),(3,0),(4,3),(5,3),(6,0),(7,3),(8,3),(9,3),(10,0),(11,3),(12,3),(13,0),(14,1),(15,3)] mixed (by kernel_rfl) (fun w_19 hE_ _=>?_)
    replace hW:=hW.ext hE_
    replace hX:=hX.trans hE_
    clear hE_
    have hoi:=hW.at hil
    have hok:=hW.at hk
    obtain ⟨x0,y0,hx0,hy0,hv0⟩:=(hW.row k hk).at hk
    obtain ⟨x1,y1,hx1,hy1,hv1⟩:=(hW.row i hil).at hjl
    replace hv0:=hv0.1
    replace hv1:=hv1.1
    refine gg ?_
    refine R1_call1 (rdivides_ok _ _ _ _ _ _ N w_19 hv0 hv1 (by omega) hxC) ?_
    rintro _ w_20 ⟨hE_,rfl⟩
    refine ⟨hE_,?_⟩
    replace hW:=hW.ext hE_
    replace hv0:=hv0.ext hE_
    replace hv1:=hv1.ext hE_
    replace hX:=hX.trans hE_
    clear hE_
    clear hoi hok hx0 hy0 hx1 hy1 hv0 hv1
    by_cases hd:C i j % C k k = 0
    · rw [decide_eq_true hd]
      refine gg ?_
      refine ⟨_,?_,j + 1,rfl,by omega,by omega,rfl,rfl,rfl,rfl,rfl,hC.trans (hX.mono fun _ _ h=>h.elim),hK.trans (kp_ext hX),hW,fun c h1 h2=>?_⟩
      · omega
      · by_cases e:c = j
        · subst e; exact Int.dvd_of_emod_eq_zero hd
        · exact hdr c h1 (by omega)
    · rw [decide_eq_false hd]
      have hok:=hW.at hk
      refine gg ?_
      clear hok
      have hik:i ≠ k:=by omega
      replace hC:=hC.trans (hX.mono fun _ _ h=>h.elim)
      replace hK:=hK.trans (kp_ext hX)
      clear hX
      refine W_seqM (fun f w'=>Ch (RS gs n) w w'∧Kp w w'∧GMat w' gO gs cp n n true (fun _ _=>N) (addR C k i)) ?_ ?_
      · have hok:=hW.at hk
        refine gg ?_
        clear hok
        refine W_loop (fun m f w'=>∃ c,m = n - c∧c≤n∧f 0 = .slice (some ⟨gO,0,none⟩) n n∧f 1 = .int .i64 ((k:Nat):Int)∧f 12 = .int .i64 ((i:Nat):Int)∧f 191 = .int .i64 ((n:Nat):Int)∧f 192 = .int .i64 ((c:Nat):Int)∧Ch (RS gs n) w w'∧Kp w w'∧GMat w' gO gs cp n n true (fun _ _=>N) (addQ C k i c))
         n ⟨0,rfl,Nat.zero_le _,rfl,rfl,rfl,rfl,rfl,hC,hK,hW.congr (fun a b _ _=>⟨Nat.le_refl _,by unfold addQ; rw [if_neg (by omega)]⟩)⟩ ?_
        clear hC hK hW
        rintro m f w4 ⟨c,rfl,hc,hf0,hf1,hf12,hf191,hf192,hC,hK,hW⟩
        rw [ui hf0,ui hf1,ui hf12,ui hf191,ui hf192]
        clear hf0 hf1 hf12 hf191 hf192
        by_cases hcl':c < n
        rotate_left
        · obtain rfl:c = n:=by omega
          refine gg ?_
          refine ⟨hC,hK,hW.congr (fun a b _ hb=>⟨Nat.le_refl _,?_⟩)⟩
          unfold addQ addR
          by_cases e:a = k
          · rw [if_pos ⟨e,hb⟩,if_pos e]
          · rw [if_neg (fun h=>e h.1),if_neg e]
        have hs4:=hC.size
        have hX:Ext w4 w4:=Ext.refl w4
        refine gg ?_
        refine gg ?_
        refine W_regD [(0,3),(1,3),(2,3),(3,0),(4,3),(5,3),(6,3),(7,3),(8,0),(9,3),(10,3),(11,0),(12,3),(13,3),(14,3),(15,0),(16,3),(17,3),(18,0),(19,1),(20,3),(21,2)] mixed (by kernel_rfl) (fun w_21 hE_ _=>?_)
        replace hW:=hW.ext hE_
        replace hX:=hX.trans hE_
        clear hE_
        have hoi:=hW.at hil
        have hok:=hW.at hk
        obtain ⟨x0,y0,hx0,hy0,hv0⟩:=(hW.row k hk).at hcl'
        obtain ⟨x1,y1,hx1,hy1,hv1⟩:=(hW.row i hil).at hcl'
        have e0:addQ C k i c k c = C k c:=by unfold addQ; rw [if_neg (by omega)]
        have e1:addQ C k i c i c = C i c:=by unfold addQ; rw [if_neg (fun h=>hik h.1)]
        rw [e0] at hv0
        rw [e1] at hv1
        replace hv0:=hv0.1
        replace hv1:=hv1.1
        refine gg ?_
        refine R1_call1 (radd_ok _ _ _ _ _ _ N w_21 hv0 hv1 (by omega)) ?_
        rintro _ w_22 ⟨hE_,a0,a1,rfl,hm⟩
        refine ⟨hE_,?_⟩
        replace hW:=hW.ext hE_
        replace hv0:=hv0.ext hE_
        replace hv1:=hv1.ext hE_
        replace hX:=hX.trans hE_
        clear hE_
        have bd:Bd N (C k c + C i c):=by
         have:=b3 i hil k c hk hcl'
         unfold Go.Sm.addR at this
         rw [if_pos rfl,← hCd] at this
         exact this
        clear hoi hok hx0 hx1 hy0 hy1 hv0 hv1
        refine gg ?_
        refine R1_storeG (.inl rfl) rfl rfl (hW.row k hk) hcl' (hm.ev true bd) ?_
        intro w5 hR5 hC_ hk_ hs_
        replace hW:=hW.put hk hR5 hC_ hk_
        replace hC:=hC.trans ((hX.mono fun _ _ h=>h.elim).trans (hC_.mono fun b _ e=>⟨k,hk,e⟩))
        replace hK:=hK.trans ((kp_ext hX).trans hk_)
        clear hX hR5 hC_ hk_ hs_ hm
        refine gg ?_
        refine ⟨_,?_,c + 1,rfl,hcl',rfl,rfl,rfl,rfl,rfl,hC,hK,hW.congr (fun a b _ _=>⟨?_,?_⟩)⟩
        · omega
        · simp only [set2]; split <;> exact Nat.le_refl _
        · simp only [set2]
          unfold addQ
          by_cases e:a = k∧b = c
          · obtain ⟨rfl,rfl⟩:=e
            rw [if_pos ⟨rfl,rfl⟩,if_pos (by omega)]
          · rw [if_neg e]
            congr 1
            exact propext (by omega)
      clear hC hK hW
      rintro f w4 ⟨hC,hK,hW⟩
      refine gg ?_
      refine ret1 (v:=.bool _) rfl rfl ⟨addR (red S k n) k i,false,rfl,.row i hki hil (by rw [← hCd]; exact hcl) ⟨j,hkj,hjl,?_⟩,hC,hK,by rw [← hCd]; exact hW⟩
      rw [← hCd,← hkk]
      exact fun e=>hd (Int.emod_eq_zero_of_dvd e)
  clear hC hK hW
  rintro f w2 ⟨hf5,hC,hK,hW,hdv⟩
  rw [ui hf5]
  refine gg ?_
  refine ret1 (v:=.bool _) rfl rfl ⟨red S k n,true,rfl,.done (by rw [← hCd]; exact hcl) (fun a c h1 h2 h3 h4=>?_),hC,hK,by rw [← hCd]; exact hW⟩
  rw [← hCd,← hkk]
  exact hdv a c h1 h2 h3 h4
end Go.Proofs.YtncbjgblcofddaaGreatDoor
