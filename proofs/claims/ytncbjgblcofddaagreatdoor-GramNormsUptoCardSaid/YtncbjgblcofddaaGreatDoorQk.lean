/- Joined: Rsq. -/
import Derived.Test.YtncbjgblcofddaaGreatDoorQj
import Derived.Test.YtncbjgblcofddaaGreatDoorQi
/- The reference's Square,Det; matrix.Adjugate; the reference's Times. -/
namespace Go.Proofs.YtncbjgblcofddaaGreatDoor
open Go Go.Eng Go.Num Go.Proofs
def sqV (r:Nat) (len:Nat→Nat):Value:=.tuple #[.int .i64 (((if okS r len then r else 0:Nat)):Int),.bool (okS r len)]
theorem sqV_cases (r:Nat) (len:Nat→Nat):∃ (s:Nat),sqV r len = .tuple #[.int .i64 ((s:Nat):Int),.bool (okS r len)]∧s = if okS r len then r else 0:=⟨_,rfl,rfl⟩
theorem okS_of {r:Nat} {len:Nat→Nat}:okS r len = (okM r len && decide (r = len 0)):=rfl
set_option maxHeartbeats 8000000 in
theorem rsquare_ok (E:World→Value→Value→Int→Prop) (v:Value) (r:Nat) (len:Nat→Nat) (M:Nat→Nat→Int) (w:World) (h:MatE E w v r len M) :
 Meets Tryz.prog 65 #[v] w fun u w'=>Ext w w'∧u = sqV r len:=by
 refine fn_W (n:=21) Tryz.func65 rfl rfl (by kernel_rfl) (by simp) ?_
 refine gg ?_
 refine R1_call2 (rshape_ok E v r len M w h) ?_
 rintro _ w1 ⟨hE1,rfl⟩
 obtain ⟨s,c,ok,e,hc⟩:=shapeV_cases r len
 rw [e]
 rcases hc with ⟨h1,rfl,rfl,rfl⟩ | ⟨h1,rfl,rfl,rfl⟩
 · refine gg ?_
   refine W_seq ?_
   by_cases hs:s = len 0
   · refine gg ?_
     refine ret2 rfl rfl rfl ⟨hE1,?_⟩
     unfold sqV
     rw [okS_of,h1,decide_eq_true hs]; rfl
   · refine gg ?_
     refine ret2 rfl rfl rfl ⟨hE1,?_⟩
     unfold sqV
     rw [okS_of,h1,decide_eq_false hs]; rfl
 · refine gg ?_
   refine W_seq ?_
   refine gg ?_
   refine ret2 rfl rfl rfl ⟨hE1,?_⟩
   unfold sqV
   rw [okS_of,h1]; rfl
set_option maxHeartbeats 8000000 in
theorem adjugateX_ok (v:Value) (r N:Nat) (len:Nat→Nat) (M:Nat→Nat→Int) (w:World) (h:MatE (EI N) w v r len M) (hN1:1≤N) (hN:N < 1048576) :
 Meets Tryz.prog 84 #[v] w (RMB w (okS r len) r r (adjF r M)):=by
 refine fn_W (n:=22) Tryz.func84 rfl rfl (by kernel_rfl) (by simp) ?_
 refine gg ?_
 refine R1_call2 (shape_ok (EI N) v r len M w h) ?_
 rintro _ w1 ⟨hw1,rfl⟩
 have hE1:Ext w w1:=by rw [← hw1]; exact Ext.refl _
 obtain ⟨s,c,ok,e,hc⟩:=shapeV_cases r len
 rw [e]
 rcases hc with ⟨h1,rfl,rfl,rfl⟩ | ⟨h1,rfl,rfl,rfl⟩
 · refine gg ?_
   refine W_seq ?_
   by_cases hs:s = len 0
   · have hok:okS s len = true:=by rw [okS_of,h1,decide_eq_true hs]; rfl
     have hsq:=okS_iff.1 hok
     refine gg ?_
     refine R1_call2 (adjugate_ok v s N M w1 ((h.sq hsq.2.2).ext hE1) hsq.1 hsq.2.1 hN1 hN) ?_
     intro u w2 hu
     refine gg ?_
     exact ret2 rfl rfl rfl (rmb_ok hok hE1 hu)
   · refine gg ?_
     exact ret2 rfl rfl rfl (rmb_bad (by rw [okS_of,h1,decide_eq_false hs]; rfl) hE1)
 · refine gg ?_
   refine W_seq ?_
   refine gg ?_
   exact ret2 rfl rfl rfl (rmb_bad (by rw [okS_of,h1]; rfl) hE1)
end Go.Proofs.YtncbjgblcofddaaGreatDoor
