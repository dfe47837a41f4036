/- Joined: Lgj. -/
import Derived.Test.YtncbjgblcofddaaGreatDoorQok
import Derived.Test.YtncbjgblcofddaaGreatDoorQox
import Derived.Test.YtncbjgblcofddaaGreatDoorQf
/- The law GramFormats. -/
namespace Go.Proofs.YtncbjgblcofddaaGreatDoor
open Go Go.Eng Go.Num Go.Dig Go.Proofs
open Go.Det (det)
open Classical in
noncomputable def fmtE (r:Nat) (len:Nat→Nat) (M:Nat→Nat→Int):Nat:=if valE r len M = 0 then (if okT r M then 0 else 7) else valE r len M
open Classical in
noncomputable def fmtT (r:Nat) (len:Nat→Nat) (M:Nat→Nat→Int):List UInt8:=if fmtE r len M = 0 then formT r M else []
theorem fmt_of {r:Nat} {len:Nat→Nat} {M:Nat→Nat→Int} {v:Value} (h:(valE r len M ≠ 0∧v = .tuple #[Tx [],.int .i64 ((valE r len M:Nat):Int)]) ∨ (valE r len M = 0∧((okT r M∧v = .tuple #[Tx (formT r M),.int .i64 ((0:Nat):Int)]) ∨ (¬ okT r M∧v = .tuple #[Tx [],.int .i64 ((7:Nat):Int)])))) :
 v = .tuple #[Tx (fmtT r len M),.int .i64 ((fmtE r len M:Nat):Int)]:=by
 unfold fmtT fmtE
 rcases h with ⟨h,rfl⟩ | ⟨h,⟨h1,rfl⟩ | ⟨h1,rfl⟩⟩
 · rw [if_neg h,if_neg h]
 · rw [if_pos h,if_pos h1,if_pos rfl]
 · rw [if_pos h,if_neg h1,if_neg (by decide)]
theorem gformatR_ok (va:Value) (r N:Nat) (len:Nat→Nat) (M:Nat→Nat→Int) (w:World) (ha:MatE (EI N) w va r len M) (hN1:1≤N) (hN:N < 1048576) :
 Meets Tryz.prog 22 #[va] w fun v w'=>Ext w w'∧v = .tuple #[Tx (fmtT r len M),.int .i64 ((fmtE r len M:Nat):Int)] :=
 (gformat_ok va r N len M w ha hN1 hN).mono fun _ _ h=>⟨h.1,fmt_of h.2⟩
theorem rgformatR_ok (va:Value) (r N:Nat) (len:Nat→Nat) (M:Nat→Nat→Int) (w:World) (ha:MatE (EI N) w va r len M) (hN1:1≤N) (hN:N < 1048576) :
 Meets Tryz.prog 23 #[va] w fun v w'=>Ext w w'∧v = .tuple #[Tx (fmtT r len M),.int .i64 ((fmtE r len M:Nat):Int)] :=
 (rgformat_ok va r N len M w ha hN1 hN).mono fun _ _ h=>⟨h.1,fmt_of h.2⟩
theorem fmtE_le (r:Nat) (len:Nat→Nat) (M:Nat→Nat→Int):fmtE r len M≤7:=by
 have:=valE_le r len M
 unfold fmtE
 split
 · split <;> omega
 · omega
set_option maxHeartbeats 32000000 in
theorem lawGramFormats {va vx v2 v3:Value} {r0:Nat} {len0:Nat→Nat} {M0:Nat→Nat→Int} {L0:Nat→Nat→Nat} {dm kd q m at':Nat} {ns ms:Nat→Int} {c:Int} {w:World} (hm:ML w)
 (ha:MatL w va r0 len0 M0 L0) (hx:LatV w vx dm kd q ns m ms) (h2:ByteV v2 at') (h3:I8V v3 c) :
 Meets Tryz.prog 4 #[va,vx,v2,v3] w (Law w):=by
 obtain ⟨rfl,hat⟩:=h2
 obtain ⟨rfl,_,_⟩:=h3
 obtain ⟨A,cap,A',cap',rfl,hd,hk,hc,hc',hN,hN'⟩:=hx
 have hL:=LatV.agg hd hk hc hc' hN hN'
 have hdm:=Nat.mod_lt dm (show 0 < 4 by decide)
 obtain ⟨n,hn⟩ : ∃ n,n = 1 + dm % 4:=⟨_,rfl⟩
 have hn0:n < 9223372036854775808:=by omega
 refine fn_W (n:=66) Tryz.func4 rfl rfl (by kernel_rfl) (by simp) ?_
 have hX:Ext w w:=Ext.refl w
 refine gb ?_
 refine R1_box (v:=.agg _) (.inl rfl) rfl ?_
 intro w_1 hB0_ hE_ hs_
 have hX1:Blk w_1 w.heap.size 25 #[.int .u8 ((dm:Nat):Int),.int .u8 ((kd:Nat):Int),.slice A q cap,.slice A' m cap']:=hB0_
 obtain ⟨gX,hg_⟩ : ∃ g,g = w.heap.size:=⟨_,rfl⟩
 rw [← hg_] at hX1 ⊢
 have hfr_gX:w.heap.size≤gX:=by have:=hX.size; omega
 replace hX:=hX.trans hE_
 clear hB0_ hs_ hg_ hE_
 refine gb ?_
 refine W_seq ?_
 refine gb ?_
 refine R1_call2 (large7_ok va r0 len0 M0 L0 w_1 (ha.ext hX)) ?_
 rintro _ _ ⟨rfl,b,rfl,hb⟩
 cases b with
 | true =>
  refine gb ?_
  refine R1_call2 (awake7_ok w_1 (hm.ext hX)) ?_
  rintro _ w5 ⟨hE5,rfl⟩
  refine gb ?_
  exact ret1 (v:=.bool _) rfl rfl ⟨hX.trans hE5,rfl⟩
 | false =>
 have hA:MatE (EI 100) w va r0 len0 M0:=(hb rfl).e ha
 clear hb ha
 obtain ⟨x0,x1,x2,x3⟩:=blkQ hX1
 refine gb ?_
 refine R1_load4F (by decide) agg_Lat rfl x0 x1 x2 x3 ?_
 clear x0 x1 x2 x3
 refine gb ?_
 refine gb ?_
 refine R1_call2 (near_ok _ dm kd q m ns ms at' c w_1 (hL w_1 hX) hat) ?_
 rintro _ w_2 ⟨hE_,gB,gsB,MB,rfl,_,_,hOB,bB⟩
 replace hX1:=hX1.ext hE_
 replace hX:=hX.trans hE_
 clear hE_
 rw [← hn] at hOB bB ⊢
 have hK:Ext w_2 w_2:=Ext.refl _
 have hrd:∀ {u:World},Ext w_2 u→MatE (EI 6) u (.slice (some ⟨gB,0,none⟩) n n) n (fun _=>n) MB:=fun hE=>(hOB.ext hE).read bB hn0 hn0
 have l1:=fmtE_le r0 len0 M0
 have l2:=fmtE_le n (fun _=>n) MB
 obtain ⟨e1,he1⟩ : ∃ e,e = fmtE r0 len0 M0:=⟨_,rfl⟩
 obtain ⟨t1,ht1⟩ : ∃ e,e = fmtT r0 len0 M0:=⟨_,rfl⟩
 obtain ⟨e2,he2⟩ : ∃ e,e = fmtE n (fun _=>n) MB:=⟨_,rfl⟩
 obtain ⟨t2,ht2⟩ : ∃ e,e = fmtT n (fun _=>n) MB:=⟨_,rfl⟩
 refine gb ?_
 refine gb ?_
 refine R1_call2 (gformatR_ok va r0 100 len0 M0 w_2 (hA.ext hX) (by decide) (by decide)) ?_
 rintro _ w_3 ⟨hE_,rfl⟩
 replace hK:=hK.trans hE_
 replace hX:=hX.trans hE_
 clear hE_
 rw [← he1,← ht1]
 refine gb ?_
 refine gb ?_
 refine R1_call2 (rgformatR_ok va r0 100 len0 M0 w_3 (hA.ext hX) (by decide) (by decide)) ?_
 rintro _ w_4 ⟨hE_,rfl⟩
 replace hK:=hK.trans hE_
 replace hX:=hX.trans hE_
 clear hE_
 rw [← he1,← ht1]
 refine gb ?_
 refine gb ?_
 refine R1_call2 (gformatR_ok _ n 6 _ MB w_4 (hrd hK) (by decide) (by decide)) ?_
 rintro _ w_5 ⟨hE_,rfl⟩
 replace hK:=hK.trans hE_
 replace hX:=hX.trans hE_
 clear hE_
 rw [← he2,← ht2]
 refine gb ?_
 refine gb ?_
 refine R1_call2 (rgformatR_ok _ n 6 _ MB w_5 (hrd hK) (by decide) (by decide)) ?_
 rintro _ w_6 ⟨hE_,rfl⟩
 replace hK:=hK.trans hE_
 replace hX:=hX.trans hE_
 clear hE_
 rw [← he2,← ht2]
 refine gb ?_
 rw [show decide (t1 = t1) = true from decide_eq_true rfl]
 refine gb ?_
 rw [show decide (t2 = t2) = true from decide_eq_true rfl]
 refine gb ?_
 refine gb ?_
 refine R1_call2 (awake7_ok w_6 (hm.ext hX)) ?_
 rintro _ w_7 ⟨hE_,rfl⟩
 replace hK:=hK.trans hE_
 replace hX:=hX.trans hE_
 clear hE_
 refine gb ?_
 exact ret1 (v:=.bool _) rfl rfl ⟨hX,rfl⟩
end Go.Proofs.YtncbjgblcofddaaGreatDoor
