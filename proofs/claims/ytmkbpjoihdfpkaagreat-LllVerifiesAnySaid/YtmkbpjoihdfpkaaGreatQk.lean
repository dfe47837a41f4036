/- Joined: Rsq. -/
import Derived.Test.YtmkbpjoihdfpkaaGreatQj
import Derived.Test.YtmkbpjoihdfpkaaGreatQi
/- The reference's Square,Det; matrix.Adjugate; the reference's Times. -/
namespace Go.Proofs.YtmkbpjoihdfpkaaGreat
open Go Go.Eng Go.Num Go.Proofs
def sqV (r:Nat) (len:Nat→Nat):Value:=.tuple #[.int .i64 (((if okS r len then r else 0:Nat)):Int),.bool (okS r len)]
theorem sqV_cases (r:Nat) (len:Nat→Nat):∃ (s:Nat),sqV r len = .tuple #[.int .i64 ((s:Nat):Int),.bool (okS r len)]∧s = if okS r len then r else 0:=⟨_,rfl,rfl⟩
theorem okS_of {r:Nat} {len:Nat→Nat}:okS r len = (okM r len && decide (r = len 0)):=rfl
set_option maxHeartbeats 8000000 in
theorem rsquare_ok (E:World→Value→Value→Int→Prop) (v:Value) (r:Nat) (len:Nat→Nat) (M:Nat→Nat→Int) (w:World) (h:MatE E w v r len M) :
 Meets Tryz.prog 73 #[v] w fun u w'=>Ext w w'∧u = sqV r len:=by
 refine fn_W (n:=21) Tryz.func73 rfl rfl (by kernel_rfl) (by simp) ?_
 refine gg ?_
 refine R1_call2 (rshape_ok E v r len M w h) ?_
 rintro _ w1 ⟨hE1,rfl⟩
 obtain ⟨s,c,ok,e,hc⟩:=shapeV_cases r len
 rw [e]
 rcases hc with ⟨h1,rfl,rfl,rfl⟩ | ⟨h1,rfl,rfl,rfl⟩
 · refine gg ?_
   refine W_seq ?_
   by_cases hs:s = len 0
   · refine gg ?_
     refine ret2 rfl rfl rfl ⟨hE1,?_⟩
     unfold sqV
     rw [okS_of,h1,decide_eq_true hs]; rfl
   · refine gg ?_
     refine ret2 rfl rfl rfl ⟨hE1,?_⟩
     unfold sqV
     rw [okS_of,h1,decide_eq_false hs]; rfl
 · refine gg ?_
   refine W_seq ?_
   refine gg ?_
   refine ret2 rfl rfl rfl ⟨hE1,?_⟩
   unfold sqV
   rw [okS_of,h1]; rfl
set_option maxHeartbeats 8000000 in
theorem rdetX_ok (v:Value) (r N:Nat) (len:Nat→Nat) (M:Nat→Nat→Int) (w:World) (h:MatE (EI N) w v r len M) (hN1:1≤N) (hN:N < 1048576) :
 Meets Tryz.prog 61 #[v] w (RIB w (okS r len) (detB r M)):=by
 refine fn_W (n:=16) Tryz.func61 rfl rfl (by kernel_rfl) (by simp) ?_
 refine gg ?_
 refine R1_alloc (.inl rfl) z_Int ?_
 intro w1 hB1 hE1 hs1
 have hR1:Bx w1 w.heap.size 1 true 0:=Bx.zero true hB1
 clear hB1
 obtain ⟨gR,hgR⟩ : ∃ g,g = w.heap.size:=⟨_,rfl⟩
 rw [← hgR] at hR1 ⊢
 refine gg ?_
 refine W_seq ?_
 refine gg ?_
 refine R1_call2 (rsquare_ok (EI N) v r len M w1 (h.ext hE1)) ?_
 rintro _ w1' ⟨hE1',rfl⟩
 replace hR1:=hR1.ext hE1'
 replace hE1:=hE1.trans hE1'
 clear hs1 hE1'
 obtain ⟨s,e,_⟩:=sqV_cases r len
 rw [e]
 cases hok:okS r len with
 | false =>
  refine gg ?_
  refine R1_bld0 b0_Int ?_
  refine gg ?_
  refine R1_storeBx (N':=1) (.inl rfl) rfl rfl hR1 ((CV.zero w1').ev true (Bd.zero 1)) ?_
  intro w3 hR3 hC3 hk3 hs3
  refine gg ?_
  obtain ⟨x,y,hB,hv⟩:=hR3
  exact retCB rfl agg_Int rfl hB rfl ⟨hC3.ext_of hE1 (fun b hb=>by omega),x,y,rfl,hv.2 rfl⟩
 | true =>
  have hsq:=okS_iff.1 hok
  refine gg ?_
  refine R1_call2 (rdet_ok v r N M w1' ((h.sq hsq.2.2).ext hE1) (by omega) hN1 hN) ?_
  rintro _ w2 ⟨hE2,x,y,rfl,hcv⟩
  have hbd:=detB_bd (n:=r) (M:=M) hN1 (fun i j hi hj=>(h.sq hsq.2.2).bd hi hj)
  refine gg ?_
  refine R1_storeBx (.inl rfl) rfl rfl (hR1.ext hE2) (hcv.ev true hbd) ?_
  intro w3 hR3 hC3 hk3 hs3
  refine gg ?_
  obtain ⟨x,y,hB,hv⟩:=hR3
  exact retCB rfl agg_Int rfl hB rfl ⟨hC3.ext_of (hE1.trans hE2) (fun b hb=>by omega),x,y,rfl,hv.2 rfl⟩
end Go.Proofs.YtmkbpjoihdfpkaaGreat
