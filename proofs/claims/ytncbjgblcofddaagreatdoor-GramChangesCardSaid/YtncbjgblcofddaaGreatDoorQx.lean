/- Joined: Exc, Sol. -/
import Derived.Test.YtncbjgblcofddaaGreatDoorQu
import Derived.Test.YtncbjgblcofddaaGreatDoorQv
import Derived.Test.YtncbjgblcofddaaGreatDoorQn
/- bareiss.exchange; the entries of Solve's table. -/
namespace Go.Proofs.YtncbjgblcofddaaGreatDoor
open Go Go.Eng Go.Num Go.Proofs
open Go.Det (sw swp2 swp2_sw sw_sw sw_lt)
section
variable {w w':World} {gO gE r c N:Nat} {ps:Nat→Nat} {cn:Bool} {M:Nat→Nat→Int}
theorem TMat.swap {k p:Nat} (h:TMat w gO gE ps r c cn N M) (hk:k < r) (hp:p < r) (hC:Ch (fun b=>b = gO) w w') (hkp:Kp w w')
 (hB:Blk w' gO 46 (arr r (upd (upd (fun i=>.slice (some ⟨gE,0 + ps i * c * 2,none⟩) c c) k (.slice (some ⟨gE,0 + ps p * c * 2,none⟩) c c)) p (.slice (some ⟨gE,0 + ps k * c * 2,none⟩) c c)))) :
 TMat w' gO gE (fun i=>ps (sw k p i)) r c cn N (swp2 k p M):=by
 refine ⟨?_,?_,h.ne,fun i hi=>h.lt _ (sw_lt hk hp hi),fun i j hi hj e=>?_⟩
 · rw [arr_congr (h':=fun i=>.slice (some ⟨gE,0 + ps (sw k p i) * c * 2,none⟩) c c)] at hB
   · exact hB
   · intro i _
     unfold sw
     by_cases e1:i = p
     · subst e1
       rw [upd_self]
       by_cases e2:i = k
       · rw [if_pos e2,e2]
       · rw [if_neg e2,if_pos rfl]
     · rw [upd_ne _ _ e1]
       by_cases e2:i = k
       · subst e2; rw [upd_self,if_pos rfl]
       · rw [upd_ne _ _ e2,if_neg e2,if_neg e1]
 · obtain ⟨F,h1,h2⟩:=h.flat
   refine ⟨F,h1.kp hkp hC h.ne,fun i j hi hj=>?_⟩
   rw [swp2_sw]
   exact h2 _ j (sw_lt hk hp hi) hj
 · have:=h.inj _ _ (sw_lt hk hp hi) (sw_lt hk hp hj) e
   rw [← sw_sw k p i,this,sw_sw]
end
end Go.Proofs.YtncbjgblcofddaaGreatDoor
namespace Go.Proofs.YtncbjgblcofddaaGreatDoor
open Go Go.Eng Go.Num Go.Proofs
open Go.Det (sw swp2 swp2_sw sw_sw sw_lt PR)
section
variable {w w':World} {gO gE r c N i j:Nat} {ps:Nat→Nat} {cn:Bool} {M:Nat→Nat→Int} {z:Int}
theorem TMat.put {F:Nat→Int} (h:TMat w gO gE ps r c cn N M) (hi:i < r) (hj:j < c) (hF:∀ i j,i < r→j < c→F (ps i * c + j) = M i j) (hr:RowB w' gE (r * c) cn (fun _=>N) (setZ F (ps i * c + j) z)) (hC:Ch (fun b=>b = gE) w w'):TMat w' gO gE ps r c cn N (set2 M i j z):=by
 refine ⟨h.outer.ch hC h.ne.symm,⟨_,hr,fun a b ha hb=>?_⟩,h.ne,h.lt,h.inj⟩
 simp only [setZ,set2]
 by_cases e:ps a * c + b = ps i * c + j
 · obtain ⟨e1,e2⟩:=idx_inj hb hj e
   rw [if_pos e,if_pos ⟨h.inj a i ha hi e1,e2⟩]
 · rw [if_neg e,if_neg fun q=>e (by rw [q.1,q.2])]
   exact hF a b ha hb
end
section
variable {n:Nat} {S:World→World→Prop} {k:Nat} {K:Fr→World→Prop} {f:Fr} {w:World} {d ty t t2:Nat} {x y:Operand} {pos:String} {aft:Array Edge} {gd:Option (Nat × Bool)}
theorem R1_storeT {gO gE r c N i j:Nat} {ps:Nat→Nat} {cn:Bool} {M:Nat→Nat→Int} {z:Int} {a b:Value} (h0:k = 2 ∨ k = 1∧∀ w',Ch (fun b=>b = gE) w w'→S w w') (hx:ev n f x = .pointer (some ⟨gE,0 + ps i * c * 2 + j * 2,none⟩)) (hy:ev n f y = .agg #[a,b]) (hT:TMat w gO gE ps r c cn N M) (hi:i < r) (hj:j < c) (hv:EV w N cn a b z)
 (h:∀ w',TMat w' gO gE ps r c cn N (set2 M i j z)→Ch (fun b=>b = gE) w w'→Kp w w'→w'.heap.size = w.heap.size→K f w') :
 R1 Tryz.prog n S k ⟨none,.store 41 x y,ty,pos,aft,gd⟩ K f w:=by
 obtain ⟨F,hF,hFM⟩:=id hT.flat
 refine Go.Proofs.YtncbjgblcofddaaGreatDoor.R1_storeP h0 hx hy hF (idx_lt (hT.lt i hi) hj) hv ?_
 intro w' hr hC hk hs
 exact h w' (hT.put hi hj hFM hr hC) hC hk hs
end
end Go.Proofs.YtncbjgblcofddaaGreatDoor
