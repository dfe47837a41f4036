/- Joined: Rqa, Grr, Rsl. -/
import Derived.Test.YtncbjgblcofddaaGreatDoorQu
import Derived.Test.YtncbjgblcofddaaGreatDoorQx
import Derived.Test.YtncbjgblcofddaaGreatDoorQj
import Derived.Test.YtncbjgblcofddaaGreatDoorQk
/- quadformref01: Rem,Gcd; quadformref02.New. -/
namespace Go.Proofs.YtncbjgblcofddaaGreatDoor
open Go Go.Eng Go.Num Go.Proofs
theorem Bd.emod {N:Nat} {a b:Int} (hb:Bd N b) (h0:b ≠ 0):Bd N (a % b):=by
 have h1:=Int.emod_nonneg a h0
 have h2:=Int.emod_lt a h0
 unfold Bd at *
 omega
set_option maxHeartbeats 8000000 in
theorem rrem_ok (x1 y1 x2 y2:Value) (z1 z2:Int) (N:Nat) (w:World) (h1:IV w N x1 y1 z1) (h2:IV w N x2 y2 z2) (hN:N < 68719476736) (hz:z2 ≠ 0) :
 Meets Tryz.prog 153 #[.agg #[x1,y1],.agg #[x2,y2]] w (RI w (z1 % z2)):=by
 refine fn_W (n:=16) Tryz.func153 rfl rfl (by kernel_rfl) (by simp) ?_
 refine gg ?_
 refine R1_box (v:=.agg _) (.inl rfl) rfl ?_
 intro w1 hB1 hE1 hs1
 refine gg ?_
 refine R1_box (v:=.agg _) (.inl rfl) rfl ?_
 intro w2 hB2 hE2 hs2
 refine gg ?_
 refine R1_alloc (.inl rfl) z_Int ?_
 intro w3 hB3 hE3 hs3
 have hR3:Bx w3 w2.heap.size 1 true 0:=Bx.zero true hB3
 obtain ⟨gR,hgR⟩ : ∃ g,g = w2.heap.size:=⟨_,rfl⟩
 rw [← hgR] at hR3 ⊢
 have hE13:=hE1.trans (hE2.trans hE3)
 obtain ⟨f0,f1⟩:=blkP (hB1.ext (hE2.trans hE3))
 obtain ⟨f2,f3⟩:=blkP (hB2.ext hE3)
 have hs13:=hE13.size
 have hs12:=(hE1.trans hE2).size
 refine gg ?_
 refine R1_call2 (rdivMod_ok _ _ _ _ _ _ N w3 (h1.ext hE13) (h2.ext hE13) hN) ?_
 intro v w4 hv
 unfold RDZ at hv
 rw [if_neg hz] at hv
 obtain ⟨hE4,qx,qy,rx,ry,rfl,hq,hr⟩:=hv
 have hbq:Bd N (z1 / z2):=Bd.ediv (IV.bd h1)
 have hbr:Bd N (z1 % z2):=Bd.emod (IV.bd h2) hz
 have hs34:=hE4.size
 refine gg ?_
 refine R1_alloc (.inl rfl) z_Int ?_
 intro w5 hB5 hE5 hs5
 have hX5:Bx w5 w4.heap.size 1 true 0:=Bx.zero true hB5
 obtain ⟨g5,hg5⟩ : ∃ g,g = w4.heap.size:=⟨_,rfl⟩
 rw [← hg5] at hX5 ⊢
 refine gg ?_
 refine R1_alloc (.inl rfl) z_Int ?_
 intro w6 hB6 hE6 hs6
 have hX6:Bx w6 w5.heap.size 1 true 0:=Bx.zero true hB6
 obtain ⟨g6,hg6⟩ : ∃ g,g = w5.heap.size:=⟨_,rfl⟩
 rw [← hg6] at hX6 ⊢
 have hs45:=hE5.size
 have hE46:=hE5.trans hE6
 clear hB5 hB6
 refine gg ?_
 refine R1_storeBx (.inl rfl) rfl rfl (hX5.ext hE6) ((hq.ext hE46).ev true hbq) ?_
 intro w7 hX7 hC7 hk7 hs7
 refine gg ?_
 refine R1_storeBx (.inl rfl) rfl rfl (hX6.kp hk7 hC7 (by omega)) (((hr.ext hE46).kp hk7).ev true hbr) ?_
 intro w8 hX8 hC8 hk8 hs8
 have hE08:Ext w w8:=hC8.ext_of (hC7.ext_of (hE13.trans (hE4.trans hE46)) (fun b hb=>by omega)) (fun b hb=>by omega)
 have hR8:=((hR3.ext (hE4.trans hE46)).kp hk7 hC7 (by omega)).kp hk8 hC8 (by omega)
 obtain ⟨u,v,hU,hV⟩:=id hX8
 obtain ⟨p0,p1⟩:=blkP hU
 clear f0 f1 f2 f3
 refine gg ?_
 refine R1_storeBx (.inl rfl) rfl rfl hR8 hV ?_
 intro w9 hR9 hC9 hk9 hs9
 obtain ⟨u',v',hU',hV'⟩:=hR9
 refine gg ?_
 exact retC rfl agg_Int rfl hU' ⟨hC9.ext_of hE08 (fun b hb=>by omega),_,_,rfl,hV'.2 rfl⟩
end Go.Proofs.YtncbjgblcofddaaGreatDoor
namespace Go.Proofs.YtncbjgblcofddaaGreatDoor
open Go Go.Eng Go.Num Go.Proofs
theorem blkQ {w:World} {g T:Nat} {x y z u:Value} (h:Blk w g T #[x,y,z,u]):w.cell? ⟨g,0,none⟩ = some x∧w.cell? ((⟨g,0,none⟩ : Addr).add 1) = some y∧w.cell? ((⟨g,0,none⟩ : Addr).add 2) = some z∧w.cell? ((⟨g,0,none⟩ : Addr).add 3) = some u:=by
 refine ⟨by rw [h.cell]; rfl,by rw [add_lit,h.cell]; rfl,by rw [add_lit,h.cell]; rfl,by rw [add_lit,h.cell]; rfl⟩
end Go.Proofs.YtncbjgblcofddaaGreatDoor
