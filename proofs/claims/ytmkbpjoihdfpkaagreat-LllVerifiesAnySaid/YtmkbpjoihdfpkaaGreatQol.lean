/- Joined: Lrh, Lya. -/
import Derived.Test.YtmkbpjoihdfpkaaGreatQf
import Derived.Test.YtmkbpjoihdfpkaaGreatQnh
import Derived.Test.YtmkbpjoihdfpkaaGreatQe
import Derived.Test.YtmkbpjoihdfpkaaGreatQoi
/- quadformlaw08.large. -/
namespace Go.Proofs.YtmkbpjoihdfpkaaGreat
open Go Go.Eng Go.Num Go.Proofs
def Sm8 (r:Nat) (len:Nat→Nat) (L:Nat→Nat→Nat):Prop:=r≤60∧∀ i,i < r→len i≤60∧∀ j,j < len i→L i j≤60
theorem Sm8.e {w:World} {v:Value} {r:Nat} {len:Nat→Nat} {M:Nat→Nat→Int} {L:Nat→Nat→Nat} (h:Sm8 r len L) (hm:MatL w v r len M L):MatE (EI 60) w v r len M:=hm.e fun i hi j hj=>(h.2 i hi).2 j hj
set_option maxHeartbeats 8000000 in
theorem large8_ok (v:Value) (r:Nat) (len:Nat→Nat) (M:Nat→Nat→Int) (L:Nat→Nat→Nat) (w:World) (h:MatL w v r len M L) :
 Meets Tryz.prog 26 #[v] w fun u w'=>w = w'∧∃ b,u = .bool b∧(b = false→Sm8 r len L):=by
 obtain ⟨A,cap,rfl,hrc,hcap,hr47,hrow⟩:=h
 refine fn_W (n:=51) Tryz.func26 rfl rfl (by kernel_rfl) (by simp) ?_
 refine gg ?_
 refine W_seqM (fun f w'=>w = w'∧∃ n,f 3 = .int .i64 ((n:Nat):Int)∧(n≤60→Sm8 r len L)) ?_ ?_
 · refine gg ?_
   refine W_loop (fun m f w'=>w = w'∧∃ i n,m = r - i∧i≤r∧f 0 = .slice A r cap∧f 3 = .int .i64 ((n:Nat):Int)∧f 4 = .int .i64 ((i:Nat):Int)∧r≤n∧n≤281474976710656∧(n < 1000→∀ k,k < i→len k≤n∧∀ j,j < len k→L k j≤n))
    r ⟨rfl,0,r,rfl,Nat.zero_le _,rfl,rfl,rfl,Nat.le_refl _,by omega,fun _ k hk=>absurd hk (by omega)⟩ ?_
   rintro m f w' ⟨rfl,i,n,rfl,hi,hf0,hf3,hf4,hrn,hn,hk⟩
   rw [ui hf0,ui hf3,ui hf4]
   clear hf0 hf3 hf4
   refine W_seq ?_
   by_cases hlt:i < r
   · by_cases hn1:n < 1000
     · obtain ⟨ad,u,rfl,hu,hru⟩:=hrow i hlt
       obtain ⟨Ai,capi,rfl,hci,hcapi,hc47,hent⟩:=hru
       refine gg ?_
       refine W_loop (fun m f w'=>w = w'∧∃ j q,m = len i - j∧j≤len i∧f 0 = .slice (some ad) r cap∧f 3 = .int .i64 ((q:Nat):Int)∧f 4 = .int .i64 ((i:Nat):Int)∧f 5 = .int .i64 ((j:Nat):Int)∧n + len i≤q∧q≤281474976710656∧(q < 1000→∀ t,t < j→L i t≤q))
        (len i) ⟨rfl,0,n + len i,rfl,Nat.zero_le _,rfl,rfl,rfl,rfl,Nat.le_refl _,by omega,fun _ t ht=>absurd ht (by omega)⟩ ?_
       rintro m f w' ⟨rfl,j,q,rfl,hj,hf0,hf3,hf4,hf5,hnq,hq,hkj⟩
       rw [ui hf0,ui hf3,ui hf4,ui hf5]
       clear hf0 hf3 hf4 hf5
       refine W_seq ?_
       by_cases hjl:j < len i
       · by_cases hq1:q < 1000
         · obtain ⟨ad2,x,y,rfl,hx,hy,neg,B,l,c,rfl,rfl,hlc,hcc,hM,hll,hl47,_⟩:=hent j hjl
           have hy':w.cell? ((ad2.add (j * 2)).add 1) = some (.slice B l.length c):=hy
           refine gg ?_
           refine R1_fieldAddrG fa_Int1 rfl ?_
           refine gg ?_
           refine ⟨_,?_,rfl,j + 1,q + l.length,rfl,by omega,rfl,rfl,rfl,rfl,by omega,by omega,fun h t ht=>?_⟩
           · omega
           · by_cases e:t = j
             · subst e; omega
             · have:=hkj (by omega) t (by omega); omega
         · refine gg ?_
           refine ⟨_,?_,rfl,i + 1,q,rfl,by omega,rfl,rfl,rfl,by omega,hq,fun h=>absurd h hq1⟩
           omega
       · refine gg ?_
         refine ⟨_,?_,rfl,i + 1,q,rfl,by omega,rfl,rfl,rfl,by omega,hq,fun h k hk'=>?_⟩
         · omega
         · by_cases e:k = i
           · subst e
             exact ⟨by omega,fun t ht=>hkj h t (by omega)⟩
           · have:=hk hn1 k (by omega)
             exact ⟨by omega,fun t ht=>by have:=this.2 t ht; omega⟩
     · refine gg ?_
       exact ⟨rfl,n,rfl,fun h=>by omega⟩
   · refine gg ?_
     refine ⟨rfl,n,rfl,fun h=>⟨by omega,fun k hk'=>?_⟩⟩
     have:=hk (by omega) k (by omega)
     exact ⟨by omega,fun j hj=>by have:=this.2 j hj; omega⟩
 · rintro f w' ⟨rfl,n,hf3,hn⟩
   rw [ui hf3]
   clear hf3
   refine gg ?_
   refine ret1 (v:=.bool _) rfl rfl ⟨rfl,_,rfl,fun hb=>hn ?_⟩
   have:¬ (60 < n):=by simpa using hb
   omega
end Go.Proofs.YtmkbpjoihdfpkaaGreat
namespace Go.Proofs.YtmkbpjoihdfpkaaGreat
open Go Go.Eng Go.Num Go.Proofs
end Go.Proofs.YtmkbpjoihdfpkaaGreat
