/- Joined: Tab, Crs, Gcd, Rat, Low. -/
import Derived.Test.YtncbjgblcofddaaGreatDoorQt
import Derived.Scope
/- Tables: matrices whose rows are parts of one block (bareiss.table). -/
namespace Go.Eng
open Go
section
variable {P:Program} {n:Nat} {Q:Exit→Fr→World→Prop} {f:Fr} {w:World}
theorem W_label {l:Nat} (h:Q .normal f w):W P n (.label l) Q f w:=by unfold W; exact wp_label ⟨f,rfl,h⟩
def noG (Q:Exit→Fr→World→Prop):Exit→Fr→World→Prop
 | .goto _,_,_=>False
 | e,f,w=>Q e f w
theorem W_scope {c:Code} (h:W P n c (noG Q) f w):W P n (.scope c) Q f w:=by
 unfold W at *
 refine wp_scope_straight (Code.wp_mono (fun e a w hq=>?_) h)
 obtain ⟨f,rfl,hq⟩:=hq
 cases e <;> first | exact hq.elim | exact ⟨f,rfl,hq⟩
end
end Go.Eng
namespace Go.Proofs.YtncbjgblcofddaaGreatDoor
open Go Go.Eng Go.Num Go.Proofs
section
variable {P:Program} {n:Nat} {S:World→World→Prop} {k:Nat} {K:Fr→World→Prop} {f:Fr} {w:World} {d ty t:Nat} {x:Operand} {pos:String} {aft:Array Edge} {gd:Option (Nat × Bool)}
theorem R1_slice3 {e sz bytes m c l r q G o:Nat} {z:Value} {lo hi mx:Operand} (hT:SliceTy P t e sz bytes z) (hx:ev n f x = .slice (some ⟨G,o,none⟩) m c) (hl:ev n f lo = .int .i64 ((l:Nat):Int)) (hr:ev n f hi = .int .i64 ((r:Nat):Int)) (hq:ev n f mx = .int .i64 ((q:Nat):Int)) (hlr:l≤r) (hrq:r≤q) (hqc:q≤c) (hlc:l < q)
 (h:K (upd f d (.slice (some ⟨G,o + l * sz,none⟩) (r - l) (q - l))) w):R1 P n S k ⟨some d,.slice t x (some lo) (some hi) (some mx),ty,pos,aft,gd⟩ K f w:=by
 refine R1_pure (v:=.slice (some ⟨G,o + l * sz,none⟩) (r - l) (q - l)) (fun w=>?_) h
 have h1:(0:Int)≤(r:Int)∧(r:Int)≤(q:Int):=by omega
 have h2:(0:Int)≤(l:Int)∧(l:Int)≤(r:Int):=by omega
 have h3:(0:Int)≤(q:Int)∧(q:Int)≤(c:Int):=by omega
 have h4:¬ q = l:=by omega
 simp [execOp,hx,hl,hr,hq,Instr.sliceAt,run_underlying hT.und,Instr.slice,Instr.sliceBounds,Instr.sliceBound,asIntOf,size_info hT.info,hlr,hrq,hqc,h4,add_lit]
end
theorem idx_inj {c a b i j:Nat} (hb:b < c) (hj:j < c) (h:a * c + b = i * c + j):a = i∧b = j:=by
 have hc:0 < c:=by omega
 have h1:=congrArg (· / c) h
 have h2:=congrArg (· % c) h
 simp only [Nat.mul_comm _ c,Nat.mul_add_div hc,Nat.div_eq_of_lt hb,Nat.div_eq_of_lt hj,Nat.mul_add_mod,Nat.mod_eq_of_lt hb,Nat.mod_eq_of_lt hj] at h1 h2
 omega
theorem idx_lt {r c i j:Nat} (hi:i < r) (hj:j < c):i * c + j < r * c:=by
 have h:(i + 1) * c≤r * c:=Nat.mul_le_mul_right c hi
 rw [Nat.add_mul,Nat.one_mul] at h
 omega
def Flat (w:World) (gE:Nat) (ps:Nat→Nat) (r c:Nat) (cn:Bool) (N:Nat) (M:Nat→Nat→Int):Prop :=
 ∃ F,RowB w gE (r * c) cn (fun _=>N) F∧∀ i j,i < r→j < c→F (ps i * c + j) = M i j
structure TMat (w:World) (gO gE:Nat) (ps:Nat→Nat) (r c:Nat) (cn:Bool) (N:Nat) (M:Nat→Nat→Int):Prop where
 outer:Blk w gO 46 (arr r fun i=>.slice (some ⟨gE,0 + ps i * c * 2,none⟩) c c)
 flat:Flat w gE ps r c cn N M
 ne:gE ≠ gO
 lt:∀ i,i < r→ps i < r
 inj:∀ i j,i < r→j < r→ps i = ps j→i = j
section
variable {w w':World} {gO gE r c N N':Nat} {ps:Nat→Nat} {cn:Bool} {M M':Nat→Nat→Int}
theorem Flat.kp {MM:Nat→Prop} (h:Flat w gE ps r c cn N M) (hk:Kp w w') (hC:Ch MM w w') (hn:¬ MM gE):Flat w' gE ps r c cn N M:=by
 obtain ⟨F,h1,h2⟩:=h
 exact ⟨F,h1.kp hk hC hn,h2⟩
theorem TMat.kp {MM:Nat→Prop} (h:TMat w gO gE ps r c cn N M) (hk:Kp w w') (hC:Ch MM w w') (hn:¬ MM gO) (hr:¬ MM gE):TMat w' gO gE ps r c cn N M :=
 ⟨h.outer.ch hC hn,h.flat.kp hk hC hr,h.ne,h.lt,h.inj⟩
theorem TMat.ext (h:TMat w gO gE ps r c cn N M) (hE:Ext w w'):TMat w' gO gE ps r c cn N M:=h.kp (kp_ext hE) hE id id
theorem Flat.congr (h:Flat w gE ps r c cn N M) (hN:N≤N') (e:∀ i j,i < r→j < c→M i j = M' i j):Flat w gE ps r c cn N' M':=by
 obtain ⟨F,h1,h2⟩:=h
 exact ⟨F,h1.congr fun _ _=>⟨hN,rfl⟩,fun i j hi hj=>by rw [h2 i j hi hj,e i j hi hj]⟩
theorem TMat.congr (h:TMat w gO gE ps r c cn N M) (hN:N≤N') (e:∀ i j,i < r→j < c→M i j = M' i j):TMat w gO gE ps r c cn N' M' :=
 ⟨h.outer,h.flat.congr hN e,h.ne,h.lt,h.inj⟩
theorem TMat.at (h:TMat w gO gE ps r c cn N M) {i:Nat} (hi:i < r):w.cell? ⟨gO,0 + i * 1,none⟩ = some (.slice (some ⟨gE,0 + ps i * c * 2,none⟩) c c):=by
 rw [h.outer.cell,show 0 + i * 1 = i by omega,arr_at hi]
theorem TMat.entry (h:TMat w gO gE ps r c cn N M) {i j:Nat} (hi:i < r) (hj:j < c) :
 ∃ x y,w.cell? ⟨gE,0 + ps i * c * 2 + j * 2,none⟩ = some x∧w.cell? ((⟨gE,0 + ps i * c * 2 + j * 2,none⟩ : Addr).add 1) = some y∧EV w N cn x y (M i j):=by
 obtain ⟨F,h1,h2⟩:=h.flat
 obtain ⟨x,y,e1,e2,hv⟩:=h1.at (idx_lt (h.lt i hi) hj)
 rw [h2 i j hi hj] at hv
 have e:0 + (ps i * c + j) * 2 = 0 + ps i * c * 2 + j * 2:=by rw [Nat.add_mul]; omega
 rw [e] at e1 e2
 exact ⟨x,y,e1,e2,hv⟩
theorem TMat.bd (h:TMat w gO gE ps r c cn N M) {i j:Nat} (hi:i < r) (hj:j < c):Bd N (M i j):=by
 obtain ⟨x,y,_,_,hv⟩:=h.entry hi hj
 exact hv.bd
end
section
variable {n:Nat} {S:World→World→Prop} {k:Nat} {K:Fr→World→Prop} {f:Fr} {w:World}
 {d ty t t2:Nat} {x y:Operand} {pos:String} {aft:Array Edge} {gd:Option (Nat × Bool)}
theorem R1_storeP {g m c p j N:Nat} {cn:Bool} {F:Nat→Int} {z:Int} {a b:Value} (h0:k = 2 ∨ k = 1∧∀ w',Ch (fun b=>b = g) w w'→S w w') (hx:ev n f x = .pointer (some ⟨g,0 + p * c * 2 + j * 2,none⟩)) (hy:ev n f y = .agg #[a,b]) (hr:RowB w g m cn (fun _=>N) F) (hj:p * c + j < m) (hv:EV w N cn a b z)
 (h:∀ w',RowB w' g m cn (fun _=>N) (setZ F (p * c + j) z)→Ch (fun b=>b = g) w w'→Kp w w'→w'.heap.size = w.heap.size→K f w') :
 R1 Tryz.prog n S k ⟨none,.store 41 x y,ty,pos,aft,gd⟩ K f w:=by
 refine R1_storeE (j:=p * c + j) h0 (by rw [hx,show 0 + p * c * 2 + j * 2 = 0 + (p * c + j) * 2 by rw [Nat.add_mul]; omega]) hy hr hj hv ?_
 intro w' hr' hC hk hs
 exact h w' (hr'.congr fun q _=>⟨by simp only [setN]; split <;> exact Nat.le_refl _,rfl⟩) hC hk hs
end
def REV (w:World) (N:Nat) (cn:Bool) (z:Int) (v:Value) (w':World):Prop:=Ext w w'∧∃ x y,v = .agg #[x,y]∧EV w' N cn x y z
def RT (w:World) (r c:Nat) (cn:Bool) (N:Nat) (M:Nat→Nat→Int) (v:Value) (w':World):Prop :=
 Ext w w'∧∃ gO gE,v = .slice (some ⟨gO,0,none⟩) r r∧w.heap.size≤gO∧w.heap.size≤gE∧TMat w' gO gE (fun i=>i) r c cn N M
set_option maxHeartbeats 16000000 in
theorem table_ok (r c g N:Nat) (cn:Bool) (cap:List Value) (M:Nat→Nat→Int) (w:World) (hr:r < 1048576) (hc:c < 1048576) (hc1:1≤c)
 (hf:∀ i j,i < r→j < c→∀ w',Ext w w'→Meets Tryz.prog g (.int .i64 ((i:Nat):Int) :: .int .i64 ((j:Nat):Int) :: cap).toArray w' (REV w' N cn (M i j))) :
 Meets Tryz.prog 159 #[.int .i64 ((r:Nat):Int),.int .i64 ((c:Nat):Int),.func (.func g) #[] cap.toArray] w (RT w r c cn N M):=by
 refine fn_W (n:=59) Tryz.func159 rfl rfl (by kernel_rfl) (by simp) ?_
 have hrc:r * c < 1099511627776:=by
  have h1:r * c≤1048575 * c:=Nat.mul_le_mul_right c (by omega)
  omega
 refine gg ?_
 refine R1_mul_i64 rfl rfl (by omega) ?_
 refine gg ?_
 refine R1_make sl_Int (.inl rfl) rfl rfl (Nat.le_refl _) (by omega) (by omega) ?_
 intro w1 hB1 hE1 hs1
 have hF1:RowB w1 w.heap.size (r * c) cn (fun _=>N) (fun _=>0):=rowB_made cn N hB1
 obtain ⟨gE,hgE⟩ : ∃ g,g = w.heap.size:=⟨_,rfl⟩
 rw [← hgE] at hF1 ⊢
 clear hB1
 refine gg ?_
 refine R1_make sl_sInt (.inl rfl) rfl rfl (Nat.le_refl _) (by omega) (by omega) ?_
 intro w2 hB2 hE2 hs2
 rw [arr_made,Nat.mul_one] at hB2
 obtain ⟨gO,hgO⟩ : ∃ g,g = w1.heap.size:=⟨_,rfl⟩
 rw [← hgO] at hB2 ⊢
 have hne:gE ≠ gO:=by omega
 have hEO:w.heap.size≤gO:=by omega
 have hF2:=hF1.ext hE2
 have hE02:=hE1.trans hE2
 clear hF1
 refine gg ?_
 refine W_seqM (fun f w'=>f 8 = .slice (some ⟨gO,0,none⟩) r r∧Ext w w'∧TMat w' gO gE (fun i=>i) r c cn N M) ?_ ?_
 · refine gg ?_
   refine W_loop (fun m f w'=>∃ (i:Nat) (h:Nat→Value) (F:Nat→Int),m = r - i∧i≤r∧f 0 = .int .i64 ((r:Nat):Int)∧f 1 = .int .i64 ((c:Nat):Int)∧f 2 = .func (.func g) #[] cap.toArray∧f 7 = .slice (some ⟨gE,0,none⟩) (r * c) (r * c)∧f 8 = .slice (some ⟨gO,0,none⟩) r r∧f 18 = .int .i64 ((r:Nat):Int)∧f 19 = .int .i64 ((i:Nat):Int)∧Ext w w'∧Blk w' gO 46 (arr r h)∧(∀ k,k < r→∃ A m c,h k = .slice A m c)∧(∀ k,k < i→h k = .slice (some ⟨gE,0 + k * c * 2,none⟩) c c)∧RowB w' gE (r * c) cn (fun _=>N) F∧∀ a b,a < i→b < c→F (a * c + b) = M a b)
    r ⟨0,_,fun _=>0,rfl,Nat.zero_le _,rfl,rfl,rfl,rfl,rfl,rfl,rfl,hE02,hB2,fun k _=>⟨none,0,0,by simp [Value.cells,Nat.mod_one]⟩,fun k hk=>absurd hk (by omega),hF2,fun a b ha=>absurd ha (by omega)⟩ ?_
   clear hB2 hE02 hF2 hs2 hs1 hE1 hE2
   rintro m f w3 ⟨i,h,F,rfl,hi,hf0,hf1,hf2,hf7,hf8,hf18,hf19,hE,hB,hsl,hrow,hF,hFM⟩
   rw [ui hf0,ui hf1,ui hf2,ui hf7,ui hf8,ui hf18,ui hf19]
   clear hf0 hf1 hf2 hf7 hf8 hf18 hf19
   by_cases hlt:i < r
   · have hm1:(i + 1) * c≤r * c:=Nat.mul_le_mul_right c hlt
     have hm2:(i + 1) * c = i * c + c:=by rw [Nat.add_mul,Nat.one_mul]
     refine gg ?_
     refine R1_mul_i64 rfl rfl (by omega) ?_
     refine gg ?_
     refine R1_mul_i64 rfl rfl (by omega) ?_
     refine gg ?_
     refine R1_mul_i64 rfl rfl (by omega) ?_
     refine gg ?_
     refine R1_slice3 sl_Int rfl rfl rfl rfl (by omega) (by omega) (by omega) (by omega) ?_
     rw [show (i + 1) * c - i * c = c by omega]
     refine gg ?_
     refine R1_storeS (one_of rfl) (.inl rfl) rfl rfl hB (by rw [arr_size]; omega) ?_
     intro w4 hB4 hC4 hs4
     have hF4:=hF.kp (kp_ch hB (noInt_rows hsl).noU hC4) hC4 hne
     rw [arr_set,Nat.zero_add,Nat.mul_one] at hB4
     have hE4:Ext w w4:=hC4.ext_of hE (fun b hb=>by omega)
     have hx4:w4.cell? ⟨gO,0 + i * 1,none⟩ = some (.slice (some ⟨gE,0 + i * c * 2,none⟩) c c):=by
      rw [hB4.cell,show 0 + i * 1 = i by omega,arr_at hlt,upd_self]
     have hsl4:∀ k,k < r→∃ A m cc,upd h i (.slice (some ⟨gE,0 + i * c * 2,none⟩) c c) k = .slice A m cc:=fun k hk=>by
      by_cases hki:k = i
      · subst hki; exact ⟨_,_,_,upd_self _ _ _⟩
      · rw [upd_ne _ _ hki]; exact hsl k hk
     have hrow4:∀ k,k < i + 1→upd h i (.slice (some ⟨gE,0 + i * c * 2,none⟩) c c) k = .slice (some ⟨gE,0 + k * c * 2,none⟩) c c:=fun k hk=>by
      by_cases hki:k = i
      · subst hki; exact upd_self _ _ _
      · rw [upd_ne _ _ hki]; exact hrow k (by omega)
     clear hB hE hF hsl hrow hC4 hs4
     refine gg ?_
     refine W_loop (fun m f w'=>∃ (j:Nat) (F:Nat→Int),m = c - j∧j≤c∧f 0 = .int .i64 ((r:Nat):Int)∧f 1 = .int .i64 ((c:Nat):Int)∧f 2 = .func (.func g) #[] cap.toArray∧f 7 = .slice (some ⟨gE,0,none⟩) (r * c) (r * c)∧f 8 = .slice (some ⟨gO,0,none⟩) r r∧f 18 = .int .i64 ((r:Nat):Int)∧f 19 = .int .i64 ((i:Nat):Int)∧f 9 = .int .i64 ((i:Nat):Int)∧f 42 = .int .i64 ((c:Nat):Int)∧f 43 = .int .i64 ((j:Nat):Int)∧Ext w w'∧Blk w' gO 46 (arr r (upd h i (.slice (some ⟨gE,0 + i * c * 2,none⟩) c c)))∧RowB w' gE (r * c) cn (fun _=>N) F∧∀ a b,a < i ∨ a = i∧b < j→b < c→F (a * c + b) = M a b)
      c ⟨0,F,rfl,Nat.zero_le _,rfl,rfl,rfl,rfl,rfl,rfl,rfl,rfl,rfl,rfl,hE4,hB4,hF4,fun a b ha hb=>hFM a b (by omega) hb⟩ ?_
     clear hE4 hB4 hF4 hx4 hFM
     rintro m f w5 ⟨j,F',rfl,hj,hf0,hf1,hf2,hf7,hf8,hf18,hf19,hf9,hf42,hf43,hE,hB,hF,hFM⟩
     rw [ui hf0,ui hf1,ui hf2,ui hf7,ui hf8,ui hf18,ui hf19,ui hf9,ui hf42,ui hf43]
     clear hf0 hf1 hf2 hf7 hf8 hf18 hf19 hf9 hf42 hf43
     by_cases hjc:j < c
     · refine gg ?_
       refine W_regD [(0,3),(1,3),(2,3),(3,0),(4,3),(5,3),(6,3),(7,3),(8,1),(9,3),(10,2)] mixed (by kernel_rfl) (fun w6 hE6 _=>?_)
       have hx:w6.cell? ⟨gO,0 + i * 1,none⟩ = some (.slice (some ⟨gE,0 + i * c * 2,none⟩) c c):=by
        rw [(hB.ext hE6).cell,show 0 + i * 1 = i by omega,arr_at hlt,upd_self]
       refine gg ?_
       refine R1_callv2 (.inr rfl) rfl rfl rfl (hf i j hlt hjc w6 (hE.trans hE6)) ?_
       rintro _ w7 ⟨hE7,x,y,rfl,hev⟩
       refine ⟨fun _=>hE7,?_⟩
       refine gg ?_
       refine R1_storeP (.inl rfl) rfl rfl (hF.ext (hE6.trans hE7)) (idx_lt hlt hjc) hev ?_
       intro w8 hF8 hC8 hk8 hs8
       have hE8:Ext w w8:=hC8.ext_of ((hE.trans hE6).trans hE7) (fun b hb=>by omega)
       refine gg ?_
       refine ⟨_,?_,j + 1,_,rfl,by omega,rfl,rfl,rfl,rfl,rfl,rfl,rfl,rfl,rfl,rfl,hE8,(hB.ext (hE6.trans hE7)).ch hC8 (Ne.symm hne),hF8,fun a b hab hb=>?_⟩
       · omega
       · simp only [setZ]
         by_cases e:a * c + b = i * c + j
         · obtain ⟨rfl,rfl⟩:=idx_inj hb hjc e
           rw [if_pos rfl]
         · rw [if_neg e]
           refine hFM a b ?_ hb
           rcases hab with h1 | ⟨rfl,h1⟩
           · exact .inl h1
           · exact .inr ⟨rfl,by rcases Nat.lt_or_ge b j with h2 | h2
                                · exact h2
                                · exact absurd (by rw [show b = j by omega]) e⟩
     · refine gg ?_
       refine ⟨_,?_,i + 1,_,_,rfl,by omega,rfl,rfl,rfl,rfl,rfl,rfl,rfl,hE,hB,hsl4,hrow4,hF,fun a b ha hb=>hFM a b (by omega) hb⟩
       omega
   · refine gg ?_
     have:i = r:=by omega
     subst this
     refine ⟨rfl,hE,⟨?_,⟨F,hF,fun a b ha hb=>hFM a b ha hb⟩,hne,fun _ h=>h,fun _ _ _ _ h=>h⟩⟩
     rw [arr_congr (fun k hk=>hrow k hk)] at hB
     exact hB
 · rintro f w3 ⟨hf8,hE3,hT⟩
   rw [ui hf8]
   refine gg ?_
   exact ret1 (v:=.slice _ _ _) rfl rfl ⟨hE3,_,_,rfl,hEO,by omega,hT⟩
end Go.Proofs.YtncbjgblcofddaaGreatDoor
namespace Go.Proofs.YtncbjgblcofddaaGreatDoor
open Go Go.Eng Go.Num Go.Proofs
set_option maxHeartbeats 16000000 in
theorem cross_ok (x1 y1 x2 y2 x3 y3 x4 y4 x5 y5:Value) (z1 z2 z3 z4 z5:Int) (N:Nat) (w:World) (h1:IV w N x1 y1 z1) (h2:IV w N x2 y2 z2) (h3:IV w N x3 y3 z3) (h4:IV w N x4 y4 z4) (h5:IV w N x5 y5 z5) (hN:N < 137438953472) (hz:z5 ≠ 0) :
 Meets Tryz.prog 161 #[.agg #[x1,y1],.agg #[x2,y2],.agg #[x3,y3],.agg #[x4,y4],.agg #[x5,y5]] w (RI w ((z1 * z4 - z2 * z3) / z5)):=by
 refine fn_W (n:=28) Tryz.func161 rfl rfl (by kernel_rfl) (by simp) ?_
 refine gg ?_
 refine R1_box (v:=.agg _) (.inl rfl) rfl ?_
 intro w1 hB1 hE1 hs1
 refine gg ?_
 refine R1_box (v:=.agg _) (.inl rfl) rfl ?_
 intro w2 hB2 hE2 hs2
 refine gg ?_
 refine R1_box (v:=.agg _) (.inl rfl) rfl ?_
 intro w3 hB3 hE3 hs3
 refine gg ?_
 refine R1_box (v:=.agg _) (.inl rfl) rfl ?_
 intro w4 hB4 hE4 hs4
 refine gg ?_
 refine R1_box (v:=.agg _) (.inl rfl) rfl ?_
 intro w5 hB5 hE5 hs5
 refine gg ?_
 refine R1_alloc (.inl rfl) z_Int ?_
 intro w6 hB6 hE6 hs6
 have hR6:Bx w6 w5.heap.size 1 true 0:=Bx.zero true hB6
 obtain ⟨gR,hgR⟩ : ∃ g,g = w5.heap.size:=⟨_,rfl⟩
 rw [← hgR] at hR6 ⊢
 have hE06:=hE1.trans (hE2.trans (hE3.trans (hE4.trans (hE5.trans hE6))))
 refine gg ?_
 refine W_seqG [(0,0),(1,0),(3,0),(4,0),(7,0)] [(2,[],[]),(13,[],[]),(14,[],[]),(5,[],[2]),(6,[],[2,5]),(8,[(9,3),(10,3),(11,3),(12,3)],[6])] [(15,2),(16,2),(17,3)] mixed (by kernel_rfl) (fun w7 hE7 _=>?_)
 obtain ⟨p1,p1'⟩:=blkP (hB1.ext (hE2.trans (hE3.trans (hE4.trans (hE5.trans (hE6.trans hE7))))))
 obtain ⟨p2,p2'⟩:=blkP (hB2.ext (hE3.trans (hE4.trans (hE5.trans (hE6.trans hE7)))))
 obtain ⟨p3,p3'⟩:=blkP (hB3.ext (hE4.trans (hE5.trans (hE6.trans hE7))))
 obtain ⟨p4,p4'⟩:=blkP (hB4.ext (hE5.trans (hE6.trans hE7)))
 obtain ⟨p5,p5'⟩:=blkP (hB5.ext (hE6.trans hE7))
 have hE07:=hE06.trans hE7
 refine gg ?_
 refine Rg_float [(2,[]),(5,[]),(6,[]),(8,[(9,3),(10,3),(11,3),(12,3)])] [fA 13 11 41 (.agg #[.bool false,.slice none 0 0]),fA 14 12 41 (.agg #[.bool false,.slice none 0 0])] [17,20,21,23,14,24,25,26,11,12] (by kernel_rfl) (fun a ha f' w' _ _=>by
  rcases List.mem_cons.1 ha with rfl | ha
  · exact flt_alloc z_Int rfl f' w'
  · rcases List.mem_singleton.1 ha with rfl
    exact flt_alloc z_Int rfl f' w') ?_
 refine Rc_cons (fun w8 hE8=>?_)
 have hE08:=hE07.trans hE8
 refine gg ?_
 refine R1_call1 (mul_ok _ _ _ _ _ _ N w8 (h1.ext hE08) (h4.ext hE08) (by omega)) ?_
 rintro _ w9 ⟨hE9,a1,b1,rfl,hc1⟩
 refine ⟨hE9,?_⟩
 refine gg ?_
 refine Rc_cons (fun w10 hE10=>?_)
 have hE010:=hE08.trans (hE9.trans hE10)
 refine gg ?_
 refine R1_call1 (mul_ok _ _ _ _ _ _ N w10 (h2.ext hE010) (h3.ext hE010) (by omega)) ?_
 rintro _ w11 ⟨hE11,a2,b2,rfl,hc2⟩
 refine ⟨hE11,?_⟩
 refine gg ?_
 refine Rc_cons (fun w12 hE12=>?_)
 have m1:=h1.bd.mul h4.bd
 have m2:=h2.bd.mul h3.bd
 have m3:=m1.sub m2
 refine gg ?_
 refine R1_call1 (sub_ok _ _ _ _ _ _ (N + N) w12 ((hc1.ext (hE10.trans (hE11.trans hE12))).iv m1) ((hc2.ext hE12).iv m2) (by omega)) ?_
 rintro _ w13 ⟨hE13,a3,b3,rfl,hc3⟩
 refine ⟨hE13,?_⟩
 refine gg ?_
 refine Rc_cons (fun w14 hE14=>?_)
 have hE014:=hE010.trans (hE11.trans (hE12.trans (hE13.trans hE14)))
 refine gg ?_
 refine R1_call1 (divMod_ok _ _ _ _ _ _ (N + N + 1) w14 ((hc3.ext hE14).iv m3) ((h5.ext hE014).mono (by omega)) (by omega) hz) ?_
 rintro _ w15 ⟨hE15,qx,qy,rx,ry,rfl,hq,hr⟩
 refine ⟨hE15,?_⟩
 refine gg ?_
 refine Rc_nil (fun w16 hE16 bs hbs hdis=>?_)
 obtain ⟨hge8,hB8⟩:=hbs _ List.mem_cons_self
 obtain ⟨hge9,hB9⟩:=hbs _ (List.mem_cons_of_mem _ List.mem_cons_self)
 have hne:bs 11 ≠ bs 12:=hdis _ _ List.mem_cons_self (List.mem_cons_of_mem _ List.mem_cons_self) (show (11:Nat) ≠ 12 by decide)
 have hM8:Bx w16 (bs 11) 1 true 0:=Bx.zero true hB8
 have hM9:Bx w16 (bs 12) 1 true 0:=Bx.zero true hB9
 have hge8:w7.heap.size≤bs 11:=hge8
 have hge9:w7.heap.size≤bs 12:=hge9
 have hE016:=hE014.trans (hE15.trans hE16)
 have hR16:=hR6.ext (hE7.trans (hE8.trans (hE9.trans (hE10.trans (hE11.trans (hE12.trans (hE13.trans (hE14.trans (hE15.trans hE16)))))))))
 show Ro _ _ _ _ _ _ (upd (upd _ 12 (.pointer (some ⟨bs 12,0,none⟩))) 11 (.pointer (some ⟨bs 11,0,none⟩))) _
 generalize bs 11 = g8 at *
 generalize bs 12 = g9 at *
 clear hB8 hB9 hbs hdis
 have hqb:Bd (N + N + 1) ((z1 * z4 - z2 * z3) / z5):=m3.ediv
 have hrb:Bd N ((z1 * z4 - z2 * z3) % z5):=by
  have e1:=Int.emod_nonneg (z1 * z4 - z2 * z3) hz
  have e2:=Int.emod_lt (z1 * z4 - z2 * z3) hz
  have e3:=h5.bd
  unfold Bd at *
  omega
 have hs7:=hE7.size
 refine gg ?_
 refine R1_storeBx (.inl rfl) rfl rfl hM8 ((hq.ext hE16).ev true hqb) ?_
 intro w17 h88 hC8 hk8 hs8
 refine gg ?_
 refine R1_storeBx (.inl rfl) rfl rfl (hM9.kp hk8 hC8 hne.symm) (((hr.ext hE16).kp hk8).ev true hrb) ?_
 intro w18 h99 hC9 hk9 hs9
 have hQ:=h88.kp hk9 hC9 hne
 have hR18:=(hR16.kp hk8 hC8 (by omega)).kp hk9 hC9 (by omega)
 have hs06:=hE06.size
 have hE018:Ext w w18:=hC9.ext_of (hC8.ext_of hE016 (fun b hb=>by omega)) (fun b hb=>by omega)
 obtain ⟨ux,uy,hUB,hUv⟩:=hQ
 obtain ⟨q1,q2⟩:=blkP hUB
 clear p1 p1' p2 p2' p3 p3' p4 p4' p5 p5'
 refine gg ?_
 refine R1_storeBx (.inl rfl) rfl rfl hR18 hUv ?_
 intro w19 hR19 hC19 hk19 hs19
 obtain ⟨x,y,hB,hv⟩:=hR19
 refine gg ?_
 exact retC rfl agg_Int rfl hB ⟨hC19.ext_of hE018 (fun b hb=>by have:=hE1.size; have:=hE2.size; have:=hE3.size; have:=hE4.size; have:=hE5.size; omega),x,y,rfl,hv.2 rfl⟩
theorem okS_def {r:Nat} {len:Nat→Nat}:okS r len = (okM r len && decide (r = len 0)):=rfl
set_option maxHeartbeats 8000000 in
theorem square_ok (E:World→Value→Value→Int→Prop) (v:Value) (r:Nat) (len:Nat→Nat) (M:Nat→Nat→Int) (w:World) (h:MatE E w v r len M) :
 Meets Tryz.prog 122 #[v] w fun v' w'=>w = w'∧∃ n:Nat,v' = .tuple #[.int .i64 ((n:Nat):Int),.bool (okS r len)]∧(okS r len = true→n = r):=by
 refine fn_W (n:=20) Tryz.func122 rfl rfl (by kernel_rfl) (by simp) ?_
 refine gg ?_
 refine R1_call2 (shapeX_ok E v r len M w h) ?_
 rintro _ _ ⟨rfl,rfl⟩
 obtain ⟨s1,c1,ok1,e1,h1⟩:=shapeV_cases r len
 rw [e1]
 rcases h1 with ⟨hok,rfl,rfl,rfl⟩ | ⟨hok,rfl,rfl,rfl⟩
 · refine gg ?_
   refine ret2 (v:=.int _ _) (v':=.bool _) rfl rfl rfl ⟨rfl,_,?_,fun _=>rfl⟩
   rw [okS_def,hok]; rfl
 · refine gg ?_
   refine ret2 (v:=.int _ _) (v':=.bool _) rfl rfl rfl ⟨rfl,0,?_,fun e=>?_⟩
   · rw [okS_def,hok]; rfl
   · rw [okS_def,hok] at e; cases e
end Go.Proofs.YtncbjgblcofddaaGreatDoor
namespace Go.Proofs.YtncbjgblcofddaaGreatDoor
open Go Go.Eng Go.Num Go.Proofs
theorem trimd_len {l:List Nat} {k:Nat} (ht:Trimd l) (h:val l < B ^ k):l.length≤k:=by
 rcases Nat.lt_or_ge k l.length with h' | h'
 · exfalso
   have hne:l ≠ []:=by rintro rfl; simp at h'
   have a:=val_top hne ht
   have b:B ^ k≤B ^ (l.length - 1):=Nat.pow_le_pow_right (by decide) (by omega)
   omega
 · exact h'
theorem trimd_pos {l:List Nat} (ht:Trimd l) (h:0 < l.length):0 < val l:=by
 have hne:l ≠ []:=by rintro rfl; simp at h
 have a:=val_top hne ht
 have b:0 < B ^ (l.length - 1):=Nat.pow_pos (by decide)
 omega
set_option maxHeartbeats 16000000 in
theorem gcdNat_ok (v1 v2:Value) (m1 m2 N:Nat) (w:World) (h1:NatV w v1 m1) (h2:NatV w v2 m2) (hb1:m1 < B ^ N) (hb2:m2 < B ^ N) (hN:N < 1099511627776) :
 Meets Tryz.prog 152 #[v1,v2] w fun v w'=>Ext w w'∧NatV w' v (Nat.gcd m1 m2):=by
 obtain ⟨A1,l1,c1,rfl,hc1,hd1,hM1,ht1,rfl⟩:=h1
 obtain ⟨A2,l2,c2,rfl,hc2,hd2,hM2,ht2,rfl⟩:=h2
 refine fn_W (n:=42) Tryz.func152 rfl rfl (by kernel_rfl) (by simp) ?_
 obtain ⟨G,hG⟩ : ∃ G,G = Nat.gcd (val l1) (val l2):=⟨_,rfl⟩
 rw [← hG]
 refine gg ?_
 refine W_seqM (fun f w'=>∃ A1 l1 c1 A2 l2 c2,f 0 = .slice A1 l1.length c1∧f 1 = .slice A2 l2.length c2∧Ext w w'∧Mag w' A1 l1∧Mag w' A2 l2∧l1.length≤2∧l2.length≤2∧G = Nat.gcd (val l1) (val l2)) ?_ ?_
 · refine gg ?_
   refine W_loop (fun m f w'=>∃ A1 l1 c1 A2 l2 c2,m = val l2∧f 0 = .slice A1 l1.length c1∧f 1 = .slice A2 l2.length c2∧Ext w w'∧Mag w' A1 l1∧Mag w' A2 l2∧Trimd l1∧Trimd l2∧val l1 < B ^ N∧val l2 < B ^ N∧l1.length≤c1∧l2.length≤c2∧c1 < 9223372036854775808∧c2 < 9223372036854775808∧G = Nat.gcd (val l1) (val l2))
    (val l2) ⟨A1,l1,c1,A2,l2,c2,rfl,rfl,rfl,Ext.refl _,hM1,hM2,ht1,ht2,hb1,hb2,hc1,hc2,hd1,hd2,hG⟩ ?_
   clear hG hM1 hM2 ht1 ht2 hb1 hb2 hc1 hc2 hd1 hd2 A1 l1 c1 A2 l2 c2
   rintro m f w1 ⟨A1,l1,c1,A2,l2,c2,rfl,hf0,hf1,hE,hM1,hM2,ht1,ht2,hb1,hb2,hc1,hc2,hd1,hd2,hG⟩
   rw [ui hf0,ui hf1]
   clear hf0 hf1
   have hn1:=trimd_len ht1 hb1
   have hn2:=trimd_len ht2 hb2
   refine W_seqM (fun f w'=>f 0 = .slice A1 l1.length c1∧f 1 = .slice A2 l2.length c2∧w' = w1∧(2 < l1.length ∨ 2 < l2.length)) ?_ ?_
   · refine W_seq ?_
     by_cases h1:2 < l1.length
     · refine gg ?_
       exact ⟨rfl,rfl,rfl,.inl h1⟩
     · by_cases h2:2 < l2.length
       · refine gg ?_
         exact ⟨rfl,rfl,rfl,.inr h2⟩
       · refine gg ?_
         exact ⟨A1,l1,c1,A2,l2,c2,rfl,rfl,hE,hM1,hM2,by omega,by omega,hG⟩
   rintro f w1 ⟨hf0,hf1,rfl,hor⟩
   rw [ui hf0,ui hf1]
   clear hf0 hf1
   by_cases h0:l2.length = 0
   · refine gg ?_
     refine W_seq ?_
     refine W_seq ?_
     refine gg ?_
     refine R1_call2 (clone_ok _ _ _ _ w1 hM1 rfl (by omega) hM1.none_len) ?_
     rintro v w2 ⟨hE2,hv⟩
     refine gg ?_
     refine ret1 (v:=v) rfl rfl ⟨hE.trans hE2,?_⟩
     rw [hG,List.eq_nil_of_length_eq_zero h0]
     simp only [val,Nat.gcd_zero_right]
     exact natV_clone hM1.lim ht1 rfl hv
   · have hpos:=trimd_pos ht2 (by omega)
     refine gg ?_
     refine W_seq ?_
     refine W_seq ?_
     refine gg ?_
     refine R1_call2 (divNat_ok _ _ _ _ _ _ l1 l2 w1 hM1 hM2 rfl rfl (by omega) (by omega) ht1 ht2 hpos) ?_
     rintro _ w2 ⟨q,r,rfl,hE2,hq,A3,l3,c3,rfl,hc3,hd3,hM3,ht3,hv3⟩
     have hlt:=Nat.mod_lt (val l1) hpos
     refine gg ?_
     refine ⟨val l3,by rw [hv3]; exact hlt,A2,l2,c2,A3,l3,c3,rfl,rfl,rfl,hE.trans hE2,hM2.ext hE2,hM3,ht2,ht3,hb2,by omega,hc2,hc3,hd2,hd3,?_⟩
     rw [hG,hv3,Nat.gcd_comm (val l1),Nat.gcd_rec,Nat.gcd_comm]
 rintro f w1 ⟨A1,l1,c1,A2,l2,c2,hf0,hf1,hE,hM1,hM2,hn1,hn2,hG⟩
 rw [ui hf0,ui hf1]
 clear hf0 hf1
 refine gg ?_
 refine R1_call2 (word_ok _ _ _ l1 w1 hM1 rfl hn1) ?_
 rintro _ _ ⟨rfl,rfl⟩
 refine gg ?_
 refine R1_call2 (word_ok _ _ _ l2 w1 hM2 rfl hn2) ?_
 rintro _ _ ⟨rfl,rfl⟩
 have hx:=val_lt2 hM1.lim hn1
 have hy:=val_lt2 hM2.lim hn2
 refine gg ?_
 refine W_seqM (fun f w'=>Ext w w'∧f 7 = .int .u64 ((G:Nat):Int)∧G < 18446744073709551616) ?_ ?_
 · refine gg ?_
   refine W_loop (fun m f w'=>∃ x y,m = y∧f 7 = .int .u64 ((x:Nat):Int)∧f 8 = .int .u64 ((y:Nat):Int)∧Ext w w'∧x < 18446744073709551616∧y < 18446744073709551616∧G = Nat.gcd x y)
    (val l2) ⟨val l1,val l2,rfl,rfl,rfl,hE,hx,hy,hG⟩ ?_
   clear hE
   rintro m f w2 ⟨x,y,rfl,hf7,hf8,hE,hx,hy,hG⟩
   rw [ui hf7,ui hf8]
   clear hf7 hf8
   refine W_seq ?_
   by_cases h0:m = 0
   · obtain rfl:G = x:=by rw [hG,h0,Nat.gcd_zero_right]
     refine gg ?_
     exact ⟨hE,rfl,hx⟩
   · refine gg ?_
     refine W_regD [(0,3),(1,3),(2,3),(3,3),(4,3),(5,3)] mixed (by kernel_rfl) (fun w3 hE3 _=>?_)
     refine gg ?_
     refine R1_rem_u64 rfl rfl (by omega) ?_
     have hlt:=Nat.mod_lt x (show 0 < m by omega)
     refine gg ?_
     refine ⟨x % m,hlt,m,x % m,rfl,rfl,rfl,hE.trans hE3,hy,by omega,?_⟩
     rw [hG,Nat.gcd_comm x,Nat.gcd_rec,Nat.gcd_comm]
 rintro f w2 ⟨hE2,hf7,hGb⟩
 rw [ui hf7]
 refine gg ?_
 refine R1_call2 (fromWord_ok G w2 hGb) ?_
 rintro v w3 ⟨hE3,hv⟩
 refine gg ?_
 exact ret1 (v:=v) rfl rfl ⟨hE2.trans hE3,hv⟩
set_option maxHeartbeats 8000000 in
theorem gcd_ok (x1 y1 x2 y2:Value) (z1 z2:Int) (N:Nat) (w:World) (h1:IV w N x1 y1 z1) (h2:IV w N x2 y2 z2) (hN:N < 1099511627776) :
 Meets Tryz.prog 101 #[.agg #[x1,y1],.agg #[x2,y2]] w (RI w ((Int.gcd z1 z2:Nat):Int)):=by
 have hbd1:=h1.bd
 have hbd2:=h2.bd
 obtain ⟨g1,A1,l1,c1,rfl,rfl,hc1,hd1,hM1,hl1,rfl⟩:=h1
 obtain ⟨g2,A2,l2,c2,rfl,rfl,hc2,hd2,hM2,hl2,rfl⟩:=h2
 refine fn_W (n:=13) Tryz.func101 rfl rfl (by kernel_rfl) (by simp) ?_
 refine gg ?_
 refine R1_box (v:=.agg _) (.inl rfl) rfl ?_
 intro w1 hB1 hE1 hs1
 refine gg ?_
 refine R1_box (v:=.agg _) (.inl rfl) rfl ?_
 intro w2 hB2 hE2 hs2
 refine gg ?_
 refine R1_alloc (.inl rfl) z_Int ?_
 intro w3 hB3 hE3 hs3
 refine gg ?_
 refine W_seqD [(0,3),(1,0),(3,3),(4,0),(2,1),(5,1),(6,1),(7,1),(8,2)] mixed (by kernel_rfl) (fun w4 hE4 _=>?_)
 have hB34:=hB3.ext hE4
 have f1:=blk1 (hB1.ext ((hE2.trans hE3).trans hE4))
 have k1:=blk1 (hB2.ext (hE3.trans hE4))
 have hE:=((hE1.trans hE2).trans hE3).trans hE4
 refine gg ?_
 refine R1_call1 (trim_ok _ _ _ _ w4 (hM1.ext hE) rfl hc1 hd1) ?_
 rintro _ _ ⟨rfl,m1,hm1,rfl,htr1,htv1⟩
 refine ⟨Ext.refl _,?_⟩
 refine gg ?_
 refine R1_call1 (trim_ok _ _ _ _ w4 (hM2.ext hE) rfl hc2 hd2) ?_
 rintro _ _ ⟨rfl,m2,hm2,rfl,htr2,htv2⟩
 refine ⟨Ext.refl _,?_⟩
 have e1:(sg g1 (val l1)).natAbs = val l1:=by cases g1 <;> simp [sg]
 have e2:(sg g2 (val l2)).natAbs = val l2:=by cases g2 <;> simp [sg]
 refine gg ?_
 refine R1_call1 (gcdNat_ok _ _ (val l1) (val l2) N w4 (natV_trim (hM1.ext hE) hm1 hc1 hd1 htr1 htv1 rfl) (natV_trim (hM2.ext hE) hm2 hc2 hd2 htr2 htv2 rfl) (by unfold Bd at hbd1; omega) (by unfold Bd at hbd2; omega) hN) ?_
 rintro v w5 ⟨hE5,hv⟩
 refine ⟨hE5,?_⟩
 refine gg ?_
 refine R1_call1 (build_ok false v _ w5 hv) ?_
 rintro _ w5' ⟨hE5',x',y',rfl,hcv⟩
 refine ⟨hE5',?_⟩
 refine gg ?_
 refine R1_store2 agg_Int (.inl rfl) rfl rfl hcv.one0 hcv.one1 (hB34.ext (hE5.trans hE5')) (by decide) ?_
 intro w6 hB6 hC6 hs6
 refine gg ?_
 have hE6:Ext w w6:=hC6.ext_of ((hE.trans hE5).trans hE5') (fun b hb=>by have:=hE1.size; have:=hE2.size; omega)
 have e:sg false (Nat.gcd (val l1) (val l2)) = ((Int.gcd (sg g1 (val l1)) (sg g2 (val l2)):Nat):Int):=by
  unfold Int.gcd; rw [e1,e2]; rfl
 rw [e] at hcv
 exact retC rfl agg_Int rfl hB6 ⟨hE6,_,_,rfl,hcv.keep (hB34.ext (hE5.trans hE5')) noInt2 hC6⟩
end Go.Proofs.YtncbjgblcofddaaGreatDoor
namespace Go.Proofs.YtncbjgblcofddaaGreatDoor
open Go Go.Eng Go.Num Go.Proofs
section
variable {P:Program} {n:Nat} {S:World→World→Prop} {k:Nat} {K:Fr→World→Prop} {f:Fr} {w:World} {d ty t t2:Nat} {x y:Operand} {pos:String} {aft:Array Edge} {gd:Option (Nat × Bool)}
theorem run_load_four (ht:aggTy P t 4 = true) {p:Addr} {v0 v1 v2 v3:Value} (h0:w.cell? p = some v0) (h1:w.cell? (p.add 1) = some v1) (h2:w.cell? (p.add 2) = some v2) (h3:w.cell? (p.add 3) = some v3):(Instr.loadAt t (.pointer (some p))).run P w = .ok (.agg #[v0,v1,v2,v3]) w:=by
 simp [Instr.loadAt,Instr.sureAddr,loadVar,run_isAgg_agg ht,size_agg ht,loadCells,loadCellsFrom,load,Sem.run,h0,h1,h2,h3,add_zero]
theorem R1_load4F (h3:k ≠ 3) (ht:aggTy P t 4 = true) {p:Addr} {v0 v1 v2 v3:Value} (hx:ev n f x = .pointer (some p)) (h0:w.cell? p = some v0) (h1:w.cell? (p.add 1) = some v1) (h2:w.cell? (p.add 2) = some v2) (h4:w.cell? (p.add 3) = some v3) (h:K (upd f d (.agg #[v0,v1,v2,v3])) w) :
 R1 P n (fun _ _=>False) k ⟨some d,.load t x,ty,pos,aft,gd⟩ K f w:=by
 refine R1_read h3 (v:=.agg #[v0,v1,v2,v3]) (fun w' hw=>?_) h
 obtain rfl:=hw.resolve_left id
 simp only [execOp,hx,Sem.run_bind,run_load_four ht h0 h1 h2 h4,Result.andThen_ok,Sem.run_pure]
end
end Go.Proofs.YtncbjgblcofddaaGreatDoor
