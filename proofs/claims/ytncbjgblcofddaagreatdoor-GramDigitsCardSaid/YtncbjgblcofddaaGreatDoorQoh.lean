/- Joined: Gpr, Gpl2, Gpp, Dua, Gpl. -/
import Derived.Test.YtncbjgblcofddaaGreatDoorQof
import Derived.Test.YtncbjgblcofddaaGreatDoorQd
import Derived.Test.YtncbjgblcofddaaGreatDoorQnh
import Derived.Test.YtncbjgblcofddaaGreatDoorQm
import Derived.Test.YtncbjgblcofddaaGreatDoorQzd
/- gram.next,parseLines,Parse: the text of a Gram matrix is read. -/
namespace Go.Proofs.YtncbjgblcofddaaGreatDoor
open Go Go.Eng Go.Num Go.Dig Go.Proofs
theorem rdn_lt {l:List UInt8} (h:∀ c ∈ l,isDig c = true):rdn l < 10 ^ l.length:=by
 suffices hs:∀ (l:List UInt8),(∀ c ∈ l,isDig c = true)→rdn l.reverse < 10 ^ l.length by
  have:=hs l.reverse (fun c hc=>h c (List.mem_reverse.1 hc))
  simpa using this
 intro l
 induction l with
 | nil=>intro _; simp [rdn]
 | cons a l ih =>
  intro h
  have h1:=ih fun c hc=>h c (by simp [hc])
  have h2:=(isDig_iff a).1 (h a (by simp))
  rw [List.reverse_cons,rdn_snoc,List.length_cons,Nat.pow_succ]
  omega
theorem pval_bd {s:List UInt8} (h:okNum s):Bd 209 (pval s):=by
 have h1:=rdn_lt h.1.2.1
 have h2:rdn (unsg s) < B ^ 209:=Nat.lt_of_lt_of_le h1 (Nat.le_trans (Nat.pow_le_pow_right (by decide) h.2) B_209)
 unfold Bd pval
 split <;> omega
def RdB (w:World) (b:Nat) (ws:List (List UInt8)) (line L:Nat):Prop :=
 ∃ rest,Blk w b 111 #[Tx rest,.int .i64 ((line:Nat):Int)]∧wd 10 rest = ws∧rest.length≤L
theorem RdB.lt {w:World} {b:Nat} {ws:List (List UInt8)} {line L:Nat} (h:RdB w b ws line L):b < w.heap.size:=by
 obtain ⟨r,hb,_⟩:=h
 exact hb.lt
theorem RdB.ext {w w':World} {b:Nat} {ws:List (List UInt8)} {line L:Nat} (h:RdB w b ws line L) (hE:Ext w w'):RdB w' b ws line L:=by
 obtain ⟨r,hb,h2⟩:=h
 exact ⟨r,hb.ext hE,h2⟩
theorem RdB.ch {M:Nat→Prop} {w w':World} {b:Nat} {ws:List (List UInt8)} {line L:Nat} (h:RdB w b ws line L) (hC:Ch M w w') (hn:¬ M b):RdB w' b ws line L:=by
 obtain ⟨r,hb,h2⟩:=h
 exact ⟨r,hb.ch hC hn,h2⟩
def nxV (ws:List (List UInt8)):Value:=if 1 < ws.length then .tuple #[Tx (ws.getD 0 []),.bool true] else .tuple #[Tx [],.bool false]
set_option maxHeartbeats 16000000 in
theorem next7_ok (b line L:Nat) (ws:List (List UInt8)) (w:World) (hm:ML w) (h:RdB w b ws line L) (hL:L < 4294967281) (hline:line < 1000) :
 Meets Tryz.prog 82 #[.pointer (some ⟨b,0,none⟩)] w fun v w'=>v = nxV ws∧RdB w' b (if 1 < ws.length then ws.tail else ws) (line + 1) L∧Ch (fun q=>q = b) w w'∧Kp w w'∧(1 < ws.length→(ws.getD 0 []).length≤L):=by
 obtain ⟨rest,hb,hws,hlen⟩:=h
 refine fn_W (n:=30) Tryz.func82 rfl rfl (by kernel_rfl) (by simp) ?_
 have c1:w.cell? ⟨b,0 + 1,none⟩ = some (.int .i64 ((line:Nat):Int)):=by rw [hb.cell]; rfl
 refine gb ?_
 refine R1_storeI (one_of rfl) (.inl rfl) rfl rfl hb (by simp) ?_
 intro w1 hb1 hC1 hs1
 rw [show (#[Tx rest,.int .i64 ((line:Nat):Int)]:Array Value).setIfInBounds (0 + 1) (.int .i64 ((line + 1:Nat):Int)) = #[Tx rest,.int .i64 ((line + 1:Nat):Int)] by simp] at hb1
 have c0:w1.cell? ⟨b,0 + 0,none⟩ = some (Tx rest):=by rw [hb1.cell]; rfl
 have hm1:ML w1:=by
  obtain ⟨m,hm⟩:=hm
  by_cases e:1 = b
  · exfalso
    have e2:=hb.cell 0
    rw [← e] at e2
    rw [hm] at e2
    simp at e2
  · exact ⟨m,by rw [cell_ch hC1 (World.block_lt_of_cell? w _ hm) e]; exact hm⟩
 have hk1:Kp w w1:=kp_ch hb (fun i z=>by
  match i with
  | 0=>simp
  | 1=>simp
  | i + 2=>simp) hC1
 refine gb ?_
 refine R1_call2 (cut_ok rest 10 w1 hm1 (by omega)) ?_
 rintro _ w2 ⟨hE2,rfl⟩
 have hb2:=hb1.ext hE2
 have hC2:Ch (fun q=>q = b) w w2:=hC1.trans hE2.ch
 have hk2:=hk1.trans (kp_ext hE2)
 unfold nxV
 rcases hwc:ws with _ | ⟨l,_ | ⟨m,t⟩⟩
 · exact absurd (hws.trans hwc) (wd_ne _ _)
 · rw [cut_none (hws.trans hwc)]
   refine gb ?_
   refine W_seq ?_
   refine gb ?_
   exact ret2 (v:=Tx []) (v':=.bool false) rfl rfl rfl ⟨by rw [if_neg (by simp)],⟨rest,hb2,by rw [if_neg (by simp)]; exact hws.trans hwc,hlen⟩,hC2,hk2,fun h=>absurd h (by simp)⟩
 · obtain ⟨r,hcut,hwr,hr1,hr2⟩:=cut_some (hws.trans hwc)
   rw [hcut]
   refine gb ?_
   refine W_seq ?_
   refine gb ?_
   refine R1_store1 (v:=Tx r) one_str (.inl rfl) rfl rfl rfl hb2 (by simp) ?_
   intro w3 hb3 hC3 hs3
   have hb3':Blk w3 b 111 #[Tx r,.int .i64 ((line + 1:Nat):Int)]:=by simpa using hb3
   refine gb ?_
   refine ret2 (v:=Tx l) (v':=.bool true) rfl rfl rfl ⟨by rw [if_pos (by simp)]; rfl,⟨r,hb3',by rw [if_pos (by simp)]; exact hwr,by omega⟩,hC2.trans hC3,hk2.trans (kp_ch hb2 (fun i z=>by
    match i with
    | 0=>simp
    | 1=>simp
    | i + 2=>simp) hC3),fun _=>?_⟩
   show l.length≤L
   omega
theorem okHd_pre (l:List UInt8):Lib.hasPrefix l [102,111,114,109,32] = decide (l.take 5 = [102,111,114,109,32]):=by
 unfold Lib.hasPrefix
 by_cases h:l.take 5 = [102,111,114,109,32]
 · rw [decide_eq_true h,List.isPrefixOf_iff_prefix,List.prefix_iff_eq_take]
   exact h.symm
 · rw [decide_eq_false h]
   rw [Bool.eq_false_iff]
   intro h'
   rw [List.isPrefixOf_iff_prefix,List.prefix_iff_eq_take] at h'
   exact h h'.symm
def plE (ws:List (List UInt8)):Nat:=if 1 < ws.length∧okHd (ws.getD 0 []) then rowE ws (dimT (ws.getD 0 [])) 0 else 1
end Go.Proofs.YtncbjgblcofddaaGreatDoor
namespace Go.Proofs.YtncbjgblcofddaaGreatDoor
open Go Go.Eng Go.Num Go.Dig Go.Proofs
theorem ch_add {M N:Nat→Prop} {w w1 w2:World} (h:Ch M w w1) (hC:Ch N w1 w2) (hn:∀ b,N b→M b ∨ w.heap.size≤b):Ch M w w2 :=
 ⟨hC.os.trans h.os,hC.tape.trans h.tape,hC.output.trans h.output,Nat.le_trans h.size hC.size,fun b hb hnm =>
  (hC.block b (Nat.lt_of_lt_of_le hb h.size) (fun e=>(hn b e).elim hnm (fun h'=>by omega))).trans (h.block b hb hnm)⟩
theorem wd_mem_le (c:UInt8) (l:List UInt8):∀ w ∈ wd c l,w.length≤l.length:=by
 induction l with
 | nil=>intro w hw; simp [wd] at hw; simp [hw]
 | cons b r ih =>
  intro w hw
  rw [wd_cons] at hw
  split at hw
  · rcases List.mem_cons.1 hw with rfl | h
    · simp
    · have:=ih w h; simp; omega
  · rcases hwr:wd c r with _ | ⟨v,vs⟩
    · exact absurd hwr (wd_ne _ _)
    · rw [hwr] at hw
      rcases List.mem_cons.1 hw with rfl | h
      · have:=ih v (by rw [hwr]; simp); simp; omega
      · have:=ih w (by rw [hwr]; simp [h]); simp; omega
theorem words_ok {i:Nat} {l:List UInt8} (h:(Lib.splitK [32] 0 (min (i + 2) (l.length + 1) - 1) l).length = i + 1):Lib.splitK [32] 0 (min (i + 2) (l.length + 1) - 1) l = wd 32 l∧(wd 32 l).length = i + 1:=by
 have hc:=List.count_le_length (a:=(32:UInt8)) (l:=l)
 rw [splitK_len] at h
 have h2:l.count 32 = i:=by omega
 refine ⟨splitK_wd _ _ _ (by omega),by rw [wd_len,h2]⟩
theorem words_no {i:Nat} {l:List UInt8} (h:¬ (Lib.splitK [32] 0 (min (i + 2) (l.length + 1) - 1) l).length = i + 1):¬ okRow i l:=by
 intro hk
 apply h
 have hc:=List.count_le_length (a:=(32:UInt8)) (l:=l)
 have:=hk.1
 rw [wd_len] at this
 rw [splitK_len]
 omega
theorem drop_tail {α:Type} (l:List α) (i:Nat):(l.drop i).tail = l.drop (i + 1):=by rw [List.tail_drop]
theorem rowE_no {ws:List (List UInt8)} {n i:Nat} (hi:i < n) (h:¬ (i + 2 < ws.length∧okRow i (ws.getD (i + 1) []))):rowE ws (n - i) i = i + 2:=by
 obtain ⟨k,hk⟩ : ∃ k,n - i = k + 1:=⟨n - i - 1,by omega⟩
 rw [hk]
 unfold rowE
 rw [if_neg h]
theorem rowE_yes {ws:List (List UInt8)} {n i:Nat} (hi:i < n) (h:i + 2 < ws.length∧okRow i (ws.getD (i + 1) [])):rowE ws (n - i) i = rowE ws (n - (i + 1)) (i + 1):=by
 obtain ⟨k,hk⟩ : ∃ k,n - i = k + 1:=⟨n - i - 1,by omega⟩
 rw [hk,show n - (i + 1) = k by omega]
 conv=>lhs; unfold rowE
 rw [if_pos h]
def nxF (b:Nat):Value:=.func (.func 82) #[.pointer (some ⟨b,0,none⟩)] #[]
theorem wrap_u8n {a:Nat} (h:a < 256):IntKind.u8.wrap (a:Int) = (a:Int):=by
 have h1:((a:Int) % 2 ^ IntKind.u8.bits) = (a:Int):=by
  have:(2:Int) ^ IntKind.u8.bits = 256:=by decide
  rw [this]; omega
 unfold IntKind.wrap
 simp only [h1,IntKind.signed]
 simp
theorem R1_sub_u8 {n:Nat} {S:World→World→Prop} {k:Nat} {K:Fr→World→Prop} {f:Fr} {w:World} {d ty t t2:Nat} {x y:Operand} {pos:String} {aft:Array Edge} {gd:Option (Nat × Bool)} {a b:Nat}
 (hx:ev n f x = .int .u8 ((a:Nat):Int)) (hy:ev n f y = .int .u8 ((b:Nat):Int)) (ha:a < 256) (hb:b≤a) (h:K (upd f d (.int .u8 ((a - b:Nat):Int))) w):R1 Tryz.prog n S k ⟨some d,.binOp .sub t x y t2,ty,pos,aft,gd⟩ K f w:=by
 refine R1_bin hx hy (fun _=>by simp [eqGuard,go_sem]) (fun _=>?_) h
 simp only [binOp,Op.intArith,ne_eq,not_true_eq_false,if_false]; rw [← Int.ofNat_sub hb,wrap_u8n (by omega)]; rfl
theorem mlCh {w w':World} {b line L:Nat} {ws:List (List UInt8)} (hm:ML w) (h:RdB w b ws line L) (hC:Ch (fun q=>q = b) w w'):ML w':=by
 obtain ⟨m,hm⟩:=hm
 obtain ⟨rest,hb,_⟩:=h
 refine ⟨m,?_⟩
 rw [cell_ch hC (World.block_lt_of_cell? w _ hm) ?_]
 · exact hm
 · intro e
   have e2:=hb.cell 0
   rw [← e] at e2
   rw [hm] at e2
   simp at e2
theorem R1_callNx {n:Nat} {S:World→World→Prop} {K:Fr→World→Prop} {f:Fr} {w:World} {d ty b:Nat} {x:Operand} {pos:String} {aft:Array Edge} {gd:Option (Nat × Bool)} {post:Value→World→Prop}
 (hx:ev n f x = nxF b) (hc:Meets Tryz.prog 82 #[.pointer (some ⟨b,0,none⟩)] w post) (h:∀ v w',post v w'→K (upd f d v) w') :
 R1 Tryz.prog n S 2 ⟨some d,.call { callee:=.value x,args:=#[],argTypes:=#[] },ty,pos,aft,gd⟩ K f w :=
 R1_callv (.inl rfl) hx (by simp) hc fun v w' hp=>⟨fun h=>absurd h (by decide),h v w' hp⟩
set_option maxHeartbeats 64000000 in
theorem parseLines_ok (b L:Nat) (ws:List (List UInt8)) (w:World) (hm:ML w) (h:RdB w b ws 0 L) (hL:L < 4294967281) :
 Meets Tryz.prog 81 #[nxF b] w fun v w'=>Ch (fun q=>q = b) w w' ∧
  ((plE ws ≠ 0∧v = .tuple #[.slice none 0 0,.bool false]∧∃ ws',RdB w' b ws' (plE ws) L) ∨
   (plE ws = 0∧∃ gO gs n,n = dimT (ws.getD 0 [])∧1≤n∧n≤8∧v = .tuple #[.slice (some ⟨gO,0,none⟩) n n,.bool true]∧w.heap.size≤gO∧(∀ i,i < n→w.heap.size≤gs i)∧OMat w' gO gs n n (matT ws)∧(∀ i j,i < n→j < n→Bd 209 (matT ws i j))∧RdB w' b (ws.drop (n + 1)) (n + 1) L)):=by
 refine fn_W (n:=121) Tryz.func81 rfl rfl (by kernel_rfl) (by simp) ?_
 refine gb ?_
 refine R1_callNx rfl (next7_ok b 0 L ws w hm h hL (by decide)) ?_
 rintro _ w1 ⟨rfl,hR1,hC1,hk1,hl1⟩
 by_cases h1:1 < ws.length
 rotate_left
 · have hpe:plE ws = 1:=if_neg (fun h=>h1 h.1)
   rw [show nxV ws = .tuple #[Tx [],.bool false] from if_neg h1]
   rw [if_neg h1] at hR1
   refine gb ?_
   refine R1_call2 (cutPrefix_ok _ _ w1) ?_
   rintro _ _ ⟨rfl,rfl⟩
   refine gb ?_
   refine W_seq ?_
   refine gb ?_
   exact ret2 (v:=.slice none 0 0) (v':=.bool false) rfl rfl rfl ⟨hC1,.inl ⟨by rw [hpe]; decide,rfl,_,by rw [hpe]; exact hR1⟩⟩
 obtain ⟨l0,hl0⟩ : ∃ l,l = ws.getD 0 []:=⟨_,rfl⟩
 rw [show nxV ws = .tuple #[Tx l0,.bool true] from (if_pos h1).trans (by rw [hl0])]
 rw [if_pos h1] at hR1
 rw [← hl0] at hl1
 have hl1:=hl1 h1
 have hbad:¬ okHd l0→plE ws = 1:=fun h=>if_neg (fun h'=>h (by rw [hl0]; exact h'.2))
 refine gb ?_
 refine R1_call2 (cutPrefix_ok _ _ w1) ?_
 rintro _ _ ⟨rfl,rfl⟩
 rw [okHd_pre]
 obtain ⟨dt,hdt⟩ : ∃ d,d = Lib.trimPrefix l0 [102,111,114,109,32]:=⟨_,rfl⟩
 rw [← hdt]
 by_cases hp:l0.take 5 = [102,111,114,109,32]
 rotate_left
 · have hpe:=hbad (fun h=>hp h.2.1)
   rw [decide_eq_false hp]
   refine gb ?_
   refine W_seq ?_
   refine gb ?_
   exact ret2 (v:=.slice none 0 0) (v':=.bool false) rfl rfl rfl ⟨hC1,.inl ⟨by rw [hpe]; decide,rfl,_,by rw [hpe]; exact hR1⟩⟩
 rw [decide_eq_true hp]
 have hdrop:dt = l0.drop 5:=by
  rw [hdt]
  unfold Lib.trimPrefix
  rw [okHd_pre,decide_eq_true hp]; rfl
 have hlen5:5≤l0.length:=by
  have:=congrArg List.length hp
  simp at this
  omega
 have hdl:dt.length = l0.length - 5:=by rw [hdrop]; simp
 by_cases hl6:l0.length = 6
 rotate_left
 · have hpe:=hbad (fun h=>hl6 h.1)
   refine gb ?_
   refine W_seq ?_
   refine gb ?_
   exact ret2 (v:=.slice none 0 0) (v':=.bool false) rfl rfl rfl ⟨hC1,.inl ⟨by rw [hpe]; decide,rfl,_,by rw [hpe]; exact hR1⟩⟩
 have h05:dt[0]? = some (l0.getD 5 0):=by rw [hdrop,List.getElem?_drop]; simp [List.getD,hl6]
 by_cases hlo:(l0.getD 5 0).toNat < 49
 · have hpe:=hbad (fun h=>by have:=h.2.2.1; omega)
   refine gb ?_
   refine W_seq ?_
   refine gb ?_
   refine R1_idxS ty_str rfl (j:=0) rfl h05 ?_
   refine gb ?_
   exact ret2 (v:=.slice none 0 0) (v':=.bool false) rfl rfl rfl ⟨hC1,.inl ⟨by rw [hpe]; decide,rfl,_,by rw [hpe]; exact hR1⟩⟩
 by_cases hhi:56 < (l0.getD 5 0).toNat
 · have hpe:=hbad (fun h=>by have:=h.2.2.2; omega)
   refine gb ?_
   refine W_seq ?_
   refine gb ?_
   refine R1_idxS ty_str rfl (j:=0) rfl h05 ?_
   refine gb ?_
   refine R1_idxS ty_str rfl (j:=0) rfl h05 ?_
   refine gb ?_
   exact ret2 (v:=.slice none 0 0) (v':=.bool false) rfl rfl rfl ⟨hC1,.inl ⟨by rw [hpe]; decide,rfl,_,by rw [hpe]; exact hR1⟩⟩
 have hhd:okHd l0:=⟨hl6,hp,by omega,by omega⟩
 have hple:plE ws = rowE ws (dimT l0) 0:=by
  unfold plE
  rw [if_pos ⟨h1,by rw [← hl0]; exact hhd⟩,← hl0]
 obtain ⟨n,hn⟩ : ∃ n,n = dimT l0:=⟨_,rfl⟩
 have hnv:n = (l0.getD 5 0).toNat - 48:=hn
 rw [← hn] at hple
 rw [← hl0]
 refine gb ?_
 refine W_seq ?_
 refine gb ?_
 refine R1_idxS ty_str rfl (j:=0) rfl h05 ?_
 refine gb ?_
 refine R1_idxS ty_str rfl (j:=0) rfl h05 ?_
 refine gb ?_
 refine R1_idxS ty_str rfl (j:=0) rfl h05 ?_
 refine gb ?_
 refine R1_sub_u8 (b:=48) rfl rfl (by omega) (by omega) ?_
 rw [← hnv]
 refine gb ?_
 refine R1_make sl_sInt (.inl rfl) rfl rfl (Nat.le_refl _) (by omega) (by omega) ?_
 intro w2 hB2 hE2 hs2
 obtain ⟨gO,hgO⟩ : ∃ g,g = w1.heap.size:=⟨_,rfl⟩
 rw [← hgO] at hB2 ⊢
 have hbl:=hR1.lt
 have hs1:=hC1.size
 have hm1:ML w1:=mlCh hm h hC1
 have hn8:n≤8:=by omega
 have hn1:1≤n:=by omega
 refine gb ?_
 refine W_seqM (fun f w'=>∃ gs,f 0 = nxF b∧f 8 = .int .i64 ((n:Nat):Int)∧f 9 = .slice (some ⟨gO,0,none⟩) n n∧Ext w1 w'∧WMat w' gO gs n n true (fun _ _=>209) (fun _ _=>0)∧∀ i,i < n→gO < gs i) ?_ ?_
 · refine gb ?_
   refine W_loop (fun m f w'=>∃ i gs,m = n - i∧i≤n∧f 0 = nxF b∧f 8 = .int .i64 ((n:Nat):Int)∧f 9 = .slice (some ⟨gO,0,none⟩) n n∧f 57 = .int .i64 ((n:Nat):Int)∧f 58 = .int .i64 ((i:Nat):Int) ∧
    Ext w1 w'∧Outer 46 w' gO n i n gs∧(∀ k,k < i→RowB w' (gs k) n true (fun _=>0) (fun _=>0)∧gO < gs k)∧(∀ k k',k < i→k' < i→gs k = gs k'→k = k'))
    n ⟨0,fun _=>0,rfl,Nat.zero_le _,rfl,rfl,rfl,rfl,rfl,hE2,outer_made hB2,fun k hk=>absurd hk (by omega),fun k k' hk=>absurd hk (by omega)⟩ ?_
   clear hB2 hE2 hs2
   rintro m f w3 ⟨i,gs,rfl,hi,hf0,hf8,hf9,hf57,hf58,hE,hO,hrow,hinj⟩
   rw [ui hf0,ui hf8,ui hf9,ui hf57,ui hf58]
   clear hf0 hf8 hf9 hf57 hf58
   by_cases hlt:i < n
   · refine gb ?_
     refine R1_make sl_Int (.inl rfl) rfl rfl (Nat.le_refl _) (by omega) (by omega) ?_
     intro w4 hB4 hE4 hs4
     refine gb ?_
     refine R1_storeRow (one_of rfl) (.inl rfl) rfl rfl (hO.ext hE4) hlt ?_
     intro w5 ⟨_,hO5⟩ hC5 hk5 hs5
     have hg:=hO.lt
     refine gb ?_
     refine ⟨_,?_,i + 1,setN gs i w3.heap.size,rfl,by omega,rfl,rfl,rfl,rfl,rfl,hC5.ext_of (hE.trans hE4) (fun b hb=>by omega),hO5 rfl,fun k hk=>?_,fun k k' hk hk' e=>?_⟩
     · omega
     · by_cases e:k = i
       · subst e
         simp only [setN,if_true]
         exact ⟨(rowB_made true 0 hB4).kp hk5 hC5 (by omega),by omega⟩
       · simp only [setN,if_neg e]
         obtain ⟨h1,h2⟩:=hrow k (by omega)
         exact ⟨(h1.ext hE4).kp hk5 hC5 (by omega),h2⟩
     · have hl:∀ k,k < i→gs k < w3.heap.size:=fun k hk=>(hrow k hk).1.lt
       simp only [setN] at e
       split at e <;> split at e
       · omega
       · have:=hl k' (by omega); omega
       · have:=hl k (by omega); omega
       · exact hinj k k' (by omega) (by omega) e
   · obtain rfl:i = n:=by omega
     refine gb ?_
     refine ⟨gs,rfl,rfl,rfl,hE,?_,fun k hk=>(hrow k hk).2⟩
     exact (WMat.mk (bn:=fun _ _=>0) hO.full (fun k hk=>(hrow k hk).1) (fun k hk=>by have:=(hrow k hk).2; omega) hinj).congr (fun _ _ _ _=>⟨Nat.zero_le _,rfl⟩)
 clear hB2 hE2 hs2
 rintro f w3 ⟨gs,hf0,hf8,hf9,hE3,hW3,hgs⟩
 rw [ui hf0,ui hf8,ui hf9]
 clear hf0 hf8 hf9
 have hR3:=hR1.ext hE3
 have hCb:Ch (fun q=>q = b) w w3:=ch_add hC1 hE3 (fun q e=>e.elim)
 have hm3:ML w3:=hm1.ext hE3
 clear hE3 hR1 hC1 hm1
 refine gb ?_
 refine W_seqM (fun f w'=>∃ M,f 9 = .slice (some ⟨gO,0,none⟩) n n∧Ch (fun q=>q = b) w w'∧WMat w' gO gs n n true (fun _ _=>209) M∧RdB w' b (ws.drop (n + 1)) (n + 1) L∧plE ws = 0∧∀ a c,a < n→c≤a→M a c = entT ws a c∧M c a = entT ws a c∧Bd 209 (entT ws a c)) ?_ ?_
 · refine gb ?_
   refine W_loop (fun m f w'=>∃ i M,m = n - i∧i≤n∧f 0 = nxF b∧f 8 = .int .i64 ((n:Nat):Int)∧f 9 = .slice (some ⟨gO,0,none⟩) n n∧f 67 = .int .i64 ((n:Nat):Int)∧f 68 = .int .i64 ((i:Nat):Int)∧Ch (fun q=>q = b) w w'∧ML w'∧WMat w' gO gs n n true (fun _ _=>209) M∧RdB w' b (ws.drop (i + 1)) (i + 1) L∧plE ws = rowE ws (n - i) i∧∀ a c,a < i→c≤a→M a c = entT ws a c∧M c a = entT ws a c∧Bd 209 (entT ws a c))
    n ⟨0,_,rfl,Nat.zero_le _,rfl,rfl,rfl,rfl,rfl,hCb,hm3,hW3,by rw [List.drop_one]; exact hR3,hple,fun a c h=>absurd h (by omega)⟩ ?_
   clear hCb hm3 hW3 hR3
   rintro m f w4 ⟨i,M,rfl,hi,hf0,hf8,hf9,hf67,hf68,hC4,hm4,hW4,hR4,hpl,hall⟩
   rw [ui hf0,ui hf8,ui hf9,ui hf67,ui hf68]
   clear hf0 hf8 hf9 hf67 hf68
   by_cases hlt:i < n
   · refine gb ?_
     refine R1_callNx rfl (next7_ok b (i + 1) L _ w4 hm4 hR4 hL (by omega)) ?_
     rintro _ w5 ⟨rfl,hR5,hC5,hk5,hl5⟩
     have hC45:Ch (fun q=>q = b) w w5:=hC4.trans hC5
     have hm5:=mlCh hm4 hR4 hC5
     have hgw:∀ k,k < n→gs k ≠ b:=fun k hk=>by have:=hgs k hk; omega
     have hW5:=hW4.kp hk5 hC5 (show gO ≠ b by omega) hgw
     have hd0:(ws.drop (i + 1)).getD 0 [] = ws.getD (i + 1) []:=by simp [List.getD]
     have hdl:(ws.drop (i + 1)).length = ws.length - (i + 1):=List.length_drop
     by_cases hline:i + 2 < ws.length
     rotate_left
     · have hpe:plE ws = i + 2:=by rw [hpl]; exact rowE_no hlt (fun h=>hline h.1)
       rw [show nxV (ws.drop (i + 1)) = .tuple #[Tx [],.bool false] from if_neg (by omega)]
       refine gb ?_
       refine R1_call2 (splitN_ok [] 32 (i + 2) w5 hm5 (by simp) (by omega) (by omega)) ?_
       rintro _ w6 ⟨hE6,ws6,cap6,_,rfl,_⟩
       refine gb ?_
       refine W_seq ?_
       refine gb ?_
       exact ret2 (v:=.slice none 0 0) (v':=.bool false) rfl rfl rfl ⟨ch_add hC45 hE6 (fun q e=>e.elim),.inl ⟨by rw [hpe]; omega,rfl,_,by rw [hpe]; exact hR5.ext hE6⟩⟩
     obtain ⟨ln,hln⟩ : ∃ l,l = ws.getD (i + 1) []:=⟨_,rfl⟩
     have h1d:1 < (ws.drop (i + 1)).length:=by omega
     rw [show nxV (ws.drop (i + 1)) = .tuple #[Tx ln,.bool true] from (if_pos h1d).trans (by rw [hd0,hln])]
     rw [if_pos h1d,drop_tail] at hR5
     have hlnl:ln.length≤L:=by rw [hln,← hd0]; exact hl5 h1d
     refine gb ?_
     refine R1_call2 (splitN_ok ln 32 (i + 2) w5 hm5 (by omega) (by omega) (by omega)) ?_
     rintro _ w6 ⟨hE6,ws6,cap6,hws6,rfl,hTL6⟩
     have hC6:=ch_add hC45 hE6 (fun q e=>e.elim)
     have hm6:=hm5.ext hE6
     have hW6:=hW5.ext hE6
     have hR6:=hR5.ext hE6
     by_cases hwl:ws6.length = i + 1
     rotate_left
     · have hpe:plE ws = i + 2:=by
        rw [hpl]
        refine rowE_no hlt (fun h=>words_no (l:=ln) (i:=i) ?_ (by rw [hln]; exact h.2))
        rw [← hws6]; exact hwl
       refine gb ?_
       refine W_seq ?_
       refine gb ?_
       exact ret2 (v:=.slice none 0 0) (v':=.bool false) rfl rfl rfl ⟨hC6,.inl ⟨by rw [hpe]; omega,rfl,_,by rw [hpe]; exact hR6⟩⟩
     obtain ⟨hww,hwd⟩:=words_ok (l:=ln) (i:=i) (by rw [← hws6]; exact hwl)
     rw [← hws6] at hww
     obtain ⟨gW,hgW⟩ : ∃ g,g = w5.heap.size:=⟨_,rfl⟩
     rw [← hgW] at hTL6 ⊢
     have hgsW:∀ k,k < n→gs k < gW:=fun k hk=>by have:=(hW5.row k hk).lt; omega
     have hgWl:gW < w6.heap.size:=by have:=World.block_lt_of_cell? w6 _ (hTL6 0 (by omega)); exact this
     rw [hwl]
     refine gb ?_
     refine W_seq ?_
     refine gb ?_
     clear hC4 hm4 hW4 hR4 hk5 hl5 hC5 hC45 hm5 hW5 hR5
     refine W_loop (fun m f w'=>∃ j M,m = i + 1 - j∧j≤i + 1∧f 0 = nxF b∧f 8 = .int .i64 ((n:Nat):Int)∧f 9 = .slice (some ⟨gO,0,none⟩) n n∧f 67 = .int .i64 ((n:Nat):Int)∧f 68 = .int .i64 ((i:Nat):Int)∧f 11 = .int .i64 ((i:Nat):Int)∧f 89 = .slice (some ⟨gW,0,none⟩) (i + 1) cap6∧f 90 = .int .i64 ((i + 1:Nat):Int)∧f 91 = .int .i64 ((j:Nat):Int) ∧
      Ch (fun q=>q = b) w w'∧ML w'∧w6.heap.size≤w'.heap.size∧TL w' gW ws6∧WMat w' gO gs n n true (fun _ _=>209) M∧RdB w' b (ws.drop (i + 1 + 1)) (i + 1 + 1) L∧(∀ a c,a < i→c≤a→M a c = entT ws a c∧M c a = entT ws a c∧Bd 209 (entT ws a c)) ∧
      (∀ c,c < j→M i c = entT ws i c∧M c i = entT ws i c∧Bd 209 (entT ws i c))∧∀ c (hc:c < ws6.length),c < j→okNum ws6[c])
      (i + 1) ⟨0,M,rfl,Nat.zero_le _,rfl,rfl,rfl,rfl,rfl,rfl,rfl,rfl,rfl,hC6,hm6,Nat.le_refl _,hTL6,hW6,hR6,hall,(fun c h=>absurd h (by omega)),fun c _ h=>absurd h (by omega)⟩ ?_
     clear hC6 hm6 hTL6 hW6 hR6 hall M hE6
     rintro m f w7 ⟨j,M,rfl,hj,hf0,hf8,hf9,hf67,hf68,hf11,hf89,hf90,hf91,hC7,hm7,hs7,hTL7,hW7,hR7,hall,hrowj,hnum⟩
     rw [ui hf0,ui hf8,ui hf9,ui hf67,ui hf68,ui hf11,ui hf89,ui hf90,ui hf91]
     clear hf0 hf8 hf9 hf67 hf68 hf11 hf89 hf90 hf91
     by_cases hjl:j < i + 1
     · have kw:=hTL7 j (by omega)
       obtain ⟨wj,hwj⟩ : ∃ x,x = ws6.getD j []:=⟨_,rfl⟩
       have hwj2:ws6[j]'(by omega) = wj:=by rw [hwj]; simp [List.getD,show j < ws6.length by omega]
       rw [← hwj] at kw
       refine gb ?_
       have hwjl:wj.length≤ln.length:=by
        rw [← hwj2,List.getElem_of_eq hww (by omega)]
        exact wd_mem_le _ _ _ (List.getElem_mem _)
       refine R1_call2 (iparse_ok wj w7 (by omega)) ?_
       rintro _ w8 ⟨hE8,x,y,e,rfl,hcase⟩
       have ho:x.oneCell' = true∧y.oneCell' = true:=by
        rcases hcase with ⟨_,_,hcv⟩ | ⟨_,_,rfl,rfl⟩
        · exact ⟨hcv.one0,hcv.one1⟩
        · exact ⟨rfl,rfl⟩
       refine gb ?_
       refine R1_alloc (.inl rfl) z_Int ?_
       intro w9 hB9 hE9 hs9
       rw [show (Value.agg #[Value.bool false,Value.slice none 0 0]).cells = #[Value.bool false,Value.slice none 0 0] from by simp [Value.cells]] at hB9
       refine gb ?_
       refine R1_store2 agg_Int (.inl rfl) rfl rfl ho.1 ho.2 hB9 (by simp) ?_
       intro w10 hB10 hC10 hs10
       rw [pair_set'] at hB10
       have hE79:=hE8.trans hE9
       have hE710:Ext w7 w10:=hC10.ext_of hE79 (fun q e=>by have:=hE8.size; omega)
       have hX10:=ch_add hC7 hE710 (fun q e=>e.elim)
       have hR10:=hR7.ext hE710
       rcases hcase with ⟨hk,rfl,hcv⟩ | ⟨hk,he,rfl,rfl⟩
       rotate_left
       · have hpe:plE ws = i + 2:=by
          rw [hpl]
          refine rowE_no hlt (fun h=>hk ?_)
          rw [← hwj2,List.getElem_of_eq hww (by omega)]
          rw [← hln] at h
          exact h.2.2 _ (List.getElem_mem _)
         refine gb ?_
         refine W_seq ?_
         refine gb ?_
         exact ret2 (v:=.slice none 0 0) (v':=.bool false) rfl rfl rfl ⟨hX10,.inl ⟨by rw [hpe]; omega,rfl,_,by rw [hpe]; exact hR10⟩⟩
       have hcv10:=(hcv.ext hE9).kp (kp_ch hB9 (fun i z=>by
        match i with
        | 0=>simp
        | 1=>simp
        | i + 2=>simp) hC10)
       have hbd:=pval_bd hk
       have hent:entT ws i j = pval wj:=by
        unfold entT
        rw [← hln,← hww,← hwj]
       have hW10:=hW7.ext hE710
       refine gb ?_
       refine W_seq ?_
       refine gb ?_
       refine W_regD [(0,3),(1,3),(2,3),(3,0),(4,3),(5,3),(6,3),(7,3),(8,0),(9,3),(10,0),(11,0),(12,1),(13,3),(14,2),(15,3),(16,2)] mixed (by kernel_rfl) (fun w11 hE11 _=>?_)
       have k0:=blk0 (hB10.ext hE11)
       have k1:=blk1 (hB10.ext hE11)
       have r1:=(hW10.ext hE11).at (i:=i) hlt
       have r2:=(hW10.ext hE11).at (i:=j) (by omega)
       have hcv11:=hcv10.ext hE11
       refine gb ?_
       refine R1_call1 (normalize_ok _ _ (pval wj) 209 w11 (hcv11.iv hbd) (by decide)) ?_
       rintro _ w12 ⟨hE12,x2,y2,rfl,hcv12⟩
       refine ⟨hE12,?_⟩
       have hW12:=(hW10.ext hE11).ext hE12
       refine gb ?_
       refine R1_storeE (.inl rfl) rfl rfl (hW12.row i hlt) (by omega) ((hcv11.ext hE12).ev true hbd) ?_
       intro w13 hr13 hC13 hk13 hs13
       have hW13:=hW12.put hlt hr13 hC13 hk13
       have hcv13:=hcv12.kp hk13
       refine gb ?_
       refine R1_storeE (.inl rfl) rfl rfl (hW13.row j (by omega)) hlt (hcv13.ev true hbd) ?_
       intro w14 hr14 hC14 hk14 hs14
       have hW14:=hW13.put (by omega) hr14 hC14 hk14
       have hgi:=hgs i hlt
       have hgj:=hgs j (by omega)
       have hX12:=ch_add (ch_add hX10 hE11 (fun q e=>e.elim)) hE12 (fun q e=>e.elim)
       have hX14:=ch_add (ch_add hX12 hC13 (fun q e=>.inr (by omega))) hC14 (fun q e=>.inr (by omega))
       have hE712:Ext w7 w12:=hE710.trans (hE11.trans hE12)
       have hTL12:=hTL7.ext hE712
       have hgi2:=hgsW i hlt
       have hgj2:=hgsW j (by omega)
       have hgW12:gW < w12.heap.size:=by have:=hE712.size; omega
       have hTL14:TL w14 gW ws6:=fun c hc=>by
        rw [cell_ch hC14 (show gW < w13.heap.size by omega) (show ¬ gW = gs j by omega),cell_ch hC13 hgW12 (show ¬ gW = gs i by omega)]
        exact hTL12 c hc
       have hR14:=((((hR10.ext hE11).ext hE12).ch hC13 (show ¬ b = gs i by omega)).ch hC14 (show ¬ b = gs j by omega))
       have hs14':w6.heap.size≤w14.heap.size:=by have:=hE712.size; omega
       refine gb ?_
       refine ⟨_,?_,j + 1,set2 (set2 M i j (pval wj)) j i (pval wj),rfl,by omega,rfl,rfl,rfl,rfl,rfl,rfl,rfl,rfl,rfl,hX14,mlCh hm h hX14,hs14',hTL14,hW14.congr (fun a c _ _=>⟨?_,rfl⟩),hR14,fun a c ha hc=>?_,fun c hc=>?_,fun c hc hcj=>?_⟩
       · omega
       · simp only [set2]
         split
         · exact Nat.le_refl _
         · split <;> exact Nat.le_refl _
       · obtain ⟨e1,e2,e3⟩:=hall a c ha hc
         simp only [set2]
         rw [if_neg (by omega),if_neg (by omega),if_neg (by omega),if_neg (by omega)]
         exact ⟨e1,e2,e3⟩
       · by_cases ec:c = j
         · subst ec
           rw [hent]
           refine ⟨?_,?_,hbd⟩
           · simp only [set2]
             split
             · rfl
             · simp
           · simp [set2]
         · obtain ⟨e1,e2,e3⟩:=hrowj c (by omega)
           simp only [set2]
           rw [if_neg (by omega),if_neg (by omega),if_neg (by omega),if_neg (by omega)]
           exact ⟨e1,e2,e3⟩
       · by_cases ec:c = j
         · subst ec; rw [hwj2]; exact hk
         · exact hnum c hc (by omega)
     · obtain rfl:j = i + 1:=by omega
       have hkr:okRow i ln:=⟨hwd,fun x hx=>by
        rw [← hww] at hx
        obtain ⟨c,hc,rfl⟩:=List.mem_iff_getElem.1 hx
        exact hnum c hc (by omega)⟩
       refine gb ?_
       refine ⟨_,?_,i + 1,M,rfl,by omega,rfl,rfl,rfl,rfl,rfl,hC7,hm7,hW7,hR7,?_,fun a c ha hc=>?_⟩
       · omega
       · rw [hpl]; exact rowE_yes hlt ⟨hline,by rw [← hln]; exact hkr⟩
       · by_cases ea:a = i
         · subst ea; exact hrowj c (by omega)
         · exact hall a c (by omega) hc
   · obtain rfl:i = n:=by omega
     refine gb ?_
     refine ⟨M,rfl,hC4,hW4,hR4,?_,hall⟩
     rw [hpl,Nat.sub_self]; rfl
 rintro f w4 ⟨M,hf9,hC4,hW4,hR4,hpl,hall⟩
 rw [ui hf9]
 refine gb ?_
 have hMT:∀ a c,a < n→c < n→M a c = matT ws a c∧Bd 209 (matT ws a c):=fun a c ha hc=>by
  unfold matT
  rcases Nat.le_total c a with h | h
  · rw [Nat.max_eq_left h,Nat.min_eq_right h]
    obtain ⟨e1,_,e3⟩:=hall a c ha h
    exact ⟨e1,e3⟩
  · rw [Nat.max_eq_right h,Nat.min_eq_left h]
    obtain ⟨_,e2,e3⟩:=hall c a hc h
    exact ⟨e2,e3⟩
 refine ret2 rfl rfl rfl ⟨hC4,.inr ⟨hpl,gO,gs,n,hn,hn1,hn8,rfl,by omega,fun k hk=>by have:=hgs k hk; omega,?_,fun a c ha hc=>(hMT a c ha hc).2,hR4⟩⟩
 exact (hW4.congr (M':=matT ws) (fun a c ha hc=>⟨Nat.le_refl _,(hMT a c ha hc).1⟩)).o
end Go.Proofs.YtncbjgblcofddaaGreatDoor
namespace Go.Proofs.YtncbjgblcofddaaGreatDoor
open Go Go.Eng Go.Num Go.Dig Go.Proofs
theorem agg_Rd:aggTy Tryz.prog 111 2 = true:=by kernel_rfl
theorem z_Rd:ZeroTy Tryz.prog 111 (.agg #[.string ByteArray.empty,.int .i64 0]):=by unfold ZeroTy; kernel_rfl
theorem zero_Rd (w:World):(zeroValue 111).run Tryz.prog w = .ok (.agg #[.string ByteArray.empty,.int .i64 0]) w:=Tryz.zeroValue111 w
theorem R1_bldRd {n:Nat} {S:World→World→Prop} {k:Nat} {K:Fr→World→Prop} {f:Fr} {w:World} {d ty:Nat} {x:Operand} {pos:String} {aft:Array Edge} {gd:Option (Nat × Bool)} {s:List UInt8} (hx:ev n f x = Tx s) (h:K (upd f d (.agg #[Tx s,.int .i64 ((0:Nat):Int)])) w) :
 R1 Tryz.prog n S k ⟨some d,.build 111 #[(0,x)],ty,pos,aft,gd⟩ K f w:=by
 refine R1_pure (v:=.agg #[Tx s,.int .i64 ((0:Nat):Int)]) (fun w=>?_) h
 simp [execOp,hx,Instr.build,run_underlying Tryz.underlying111,Instr.fill,Value.cells,size_one one_str]
theorem R1_mkNx {n:Nat} {S:World→World→Prop} {k:Nat} {K:Fr→World→Prop} {f:Fr} {w:World} {d ty b:Nat} {x:Operand} {pos:String} {aft:Array Edge} {gd:Option (Nat × Bool)} (hx:ev n f x = .pointer (some ⟨b,0,none⟩)) (h:K (upd f d (nxF b)) w) :
 R1 Tryz.prog n S k ⟨some d,.makeFunc (.func 82) #[x] #[],ty,pos,aft,gd⟩ K f w :=
 R1_pure (v:=nxF b) (fun _=>by simp [execOp,Instr.makeFunc,hx,nxF]) h
def gpR (w:World) (ws:List (List UInt8)) (v:Value) (w':World):Prop :=
 (perr ws ≠ 0∧v = .tuple #[.slice none 0 0,.int .i64 ((2:Nat):Int),.int .i64 ((perr ws:Nat):Int)]) ∨
 (perr ws = 0∧∃ n,n = dimT (ws.getD 0 [])∧1≤n∧n≤8∧(∀ i j,i < n→j < n→Bd 209 (matT ws i j)) ∧
  ((valE n (fun _=>n) (matT ws) = 0∧∃ gO gs,v = .tuple #[.slice (some ⟨gO,0,none⟩) n n,.int .i64 ((0:Nat):Int),.int .i64 ((0:Nat):Int)]∧w.heap.size≤gO∧(∀ i,i < n→w.heap.size≤gs i)∧OMat w' gO gs n n (matT ws)) ∨
   (valE n (fun _=>n) (matT ws) ≠ 0∧v = .tuple #[.slice none 0 0,.int .i64 ((5:Nat):Int),.int .i64 ((0:Nat):Int)])))
set_option maxHeartbeats 16000000 in
theorem gparse_ok (s:List UInt8) (w:World) (hm:ML w) (hs:s.length < 4294967281) :
 Meets Tryz.prog 27 #[Tx s] w fun v w'=>Ext w w'∧gpR w (wd 10 s) v w':=by
 refine fn_W (n:=35) Tryz.func27 rfl rfl (by kernel_rfl) (by simp) ?_
 refine gb ?_
 refine R1_bldRd rfl ?_
 refine gb ?_
 refine R1_alloc (.inl rfl) z_Rd ?_
 intro w1 hB1 hE1 hs1
 rw [show (Value.agg #[.string ByteArray.empty,.int .i64 0]).cells = #[.string ByteArray.empty,.int .i64 0] from by simp [Value.cells]] at hB1
 obtain ⟨b,hb⟩ : ∃ b,b = w.heap.size:=⟨_,rfl⟩
 rw [← hb] at hB1 ⊢
 refine gb ?_
 refine R1_store2 agg_Rd (.inl rfl) rfl rfl rfl rfl hB1 (by simp) ?_
 intro w2 hB2 hC2 hs2
 rw [pair_set'] at hB2
 have hX2:=hC2.ext_of hE1 (fun q e=>by omega)
 have hR2:RdB w2 b (wd 10 s) 0 s.length:=⟨s,hB2,rfl,Nat.le_refl _⟩
 refine gb ?_
 refine R1_mkNx rfl ?_
 refine gb ?_
 refine R1_call2 (parseLines_ok b s.length (wd 10 s) w2 (hm.ext hX2) hR2 hs) ?_
 rintro _ w3 ⟨hC3,⟨hpl,rfl,ws',hR3⟩ | ⟨hpl,gO,gs,n,hn,hn1,hn8,rfl,hgO,hgs,hOM,hbd,hR3⟩⟩
 · have hX3:=hC3.ext_of hX2 (fun q e=>by omega)
   have hpe:perr (wd 10 s) = plE (wd 10 s):=by
    unfold perr
    unfold plE at hpl ⊢
    split
    · rename_i hc
      rw [if_pos hc] at hpl
      rw [if_pos hpl]
    · rfl
   obtain ⟨rest,hb3,_⟩:=hR3
   have c1:w3.cell? ⟨b,0 + 1,none⟩ = some (.int .i64 ((plE (wd 10 s):Nat):Int)):=by rw [hb3.cell]; rfl
   refine gb ?_
   refine W_seq ?_
   refine gb ?_
   refine W_seqD [(0,3),(1,0),(2,3),(3,3),(4,3)] mixed (by kernel_rfl) (fun w4 hE4 _=>?_)
   replace c1:=cell_ext hE4 c1
   refine gb ?_
   exact ret3 (v:=.slice none 0 0) (v':=.int .i64 ((2:Nat):Int)) (v'':=.int .i64 ((plE (wd 10 s):Nat):Int)) rfl rfl rfl rfl ⟨hX3.trans hE4,.inl ⟨by rw [hpe]; exact hpl,by rw [hpe]⟩⟩
 · have hX3:=hC3.ext_of hX2 (fun q e=>by omega)
   have hws1:1 < (wd 10 s).length∧okHd ((wd 10 s).getD 0 []):=by
    by_cases h:1 < (wd 10 s).length∧okHd ((wd 10 s).getD 0 [])
    · exact h
    · unfold plE at hpl
      rw [if_neg h] at hpl
      cases hpl
   have hpe:perr (wd 10 s) = if (wd 10 s).drop (n + 1) = [[]] then 0 else n + 2:=by
    unfold perr
    unfold plE at hpl
    rw [if_pos hws1] at hpl ⊢
    rw [if_neg (fun h=>h hpl),← hn]
   obtain ⟨rest,hb3,hwr,_⟩:=hR3
   have c0:w3.cell? ⟨b,0 + 0,none⟩ = some (Tx rest):=by rw [hb3.cell]; rfl
   have c1:w3.cell? ⟨b,0 + 1,none⟩ = some (.int .i64 ((n + 1:Nat):Int)):=by rw [hb3.cell]; rfl
   by_cases hrest:rest = []
   rotate_left
   · have hpe2:perr (wd 10 s) = n + 2:=by
      rw [hpe,if_neg]
      intro h
      rw [← hwr] at h
      exact hrest (wd_nil h)
     refine gb ?_
     refine W_seq ?_
     refine gb ?_
     refine R1_storeI (one_of rfl) (.inl rfl) rfl rfl hb3 (by simp) ?_
     intro w4 hb4 hC4 hs4
     have hX4:=hC4.ext_of hX3 (fun q e=>by omega)
     have c1:w4.cell? ⟨b,0 + 1,none⟩ = some (.int .i64 ((n + 1 + 1:Nat):Int)):=by rw [hb4.cell]; simp
     refine gb ?_
     refine W_seqD [(0,3),(1,0),(2,3),(3,3),(4,3)] mixed (by kernel_rfl) (fun w5 hE5 _=>?_)
     replace c1:=cell_ext hE5 c1
     refine gb ?_
     exact ret3 (v:=.slice none 0 0) (v':=.int .i64 ((2:Nat):Int)) (v'':=.int .i64 ((n + 1 + 1:Nat):Int)) rfl rfl rfl rfl ⟨hX4.trans hE5,.inl ⟨by rw [hpe2]; omega,by rw [hpe2]⟩⟩
   have hpe2:perr (wd 10 s) = 0:=by
    rw [hpe,if_pos]
    rw [← hwr,hrest]; rfl
   have hM:MatE (EI 209) w3 (.slice (some ⟨gO,0,none⟩) n n) n (fun _=>n) (matT (wd 10 s)):=hOM.read hbd (by omega) (by omega)
   subst hrest
   refine gb ?_
   refine W_seq ?_
   refine gb ?_
   rw [show (decide (¬ ([]:List UInt8) = [])) = false from rfl]
   refine gb ?_
   refine R1_call2 (definite_ok _ n 209 (fun _=>n) (matT (wd 10 s)) w3 hM (by decide) (by decide)) ?_
   rintro _ w4 ⟨hE4,d,rfl,hd⟩
   rw [okDef_df'] at hd
   have hok2:okS n (fun _=>n) = true:=okS_iff.2 ⟨hn1,by omega,fun _ _=>rfl⟩
   have hsym:∀ i j,i < n→j < i→matT (wd 10 s) i j = matT (wd 10 s) j i:=fun i j _ _=>by
    unfold matT
    rw [Nat.max_comm,Nat.min_comm]
   cases d
   · refine gb ?_
     refine ret3 (v:=.slice none 0 0) (v':=.int .i64 ((5:Nat):Int)) (v'':=.int .i64 ((0:Nat):Int)) rfl rfl rfl rfl ⟨hX3.trans hE4,.inr ⟨hpe2,n,hn,hn1,hn8,hbd,.inr ⟨?_,rfl⟩⟩⟩
     rw [valE_5 ⟨hok2,hn8⟩ hsym (fun h=>by cases hd.2 ⟨hok2,hsym,h⟩)]
     decide
   · refine gb ?_
     refine ret3 (v:=.slice (some ⟨gO,0,none⟩) n n) (v':=.int .i64 ((0:Nat):Int)) (v'':=.int .i64 ((0:Nat):Int)) rfl rfl rfl rfl ⟨hX3.trans hE4,.inr ⟨hpe2,n,hn,hn1,hn8,hbd,.inl ⟨?_,gO,gs,rfl,by have:=hX2.size; omega,fun i hi=>by have:=hX2.size; have:=hgs i hi; omega,hOM.ext hE4⟩⟩⟩
     rw [valE_0 ⟨hok2,hn8⟩ hsym (hd.1 rfl).2.2]
end Go.Proofs.YtncbjgblcofddaaGreatDoor
namespace Go.Proofs.YtncbjgblcofddaaGreatDoor
open Go Go.Eng Go.Num Go.Proofs
open Go.Det (det)
theorem retTCT {P:Program} {n:Nat} {f:Fr} {w:World} {fn:Func} {t u s:Tmp} {T G:Nat} {post:Value→World→Prop} {x y v v':Value} (hr:fn.results = #[.tmp t,.cell u T,.tmp s]) (hT:aggTy P T 2 = true) (ht:ev n f (.tmp t) = v) (hv:ev n f (.tmp u) = .pointer (some ⟨G,0,none⟩)) (hb:Blk w G T #[x,y]) (hs:ev n f (.tmp s) = v') (h:post (.tuple #[v,.agg #[x,y],v']) w) :
 bodyPost P fn (Ret post) .ret (act n f) w:=by
 refine bodyPost_ret (v:=.tuple #[v,.agg #[x,y],v']) ?_ rfl ⟨_,rfl,h⟩
 have e:=congrFun (act_eval n f) (.tmp t)
 have e2:=congrFun (act_eval n f) (.tmp u)
 have e3:=congrFun (act_eval n f) (.tmp s)
 simp only [Act.eval] at e e2 e3
 have h0:w.cell? ⟨G,0,none⟩ = some x:=by rw [hb.cell]; rfl
 have h1:w.cell? ((⟨G,0,none⟩ : Addr).add 1) = some y:=by rw [add_lit,hb.cell]; rfl
 have hl:=run_load_two (P:=P) hT h0 h1
 simp only [Instr.loadAt,Instr.sureAddr,Sem.run_bind,Sem.run_pure,Result.andThen_ok] at hl
 have e':(act n f).tmps[t]?.getD undef = v:=by rw [← ht,← e]; simp
 have e2':(act n f).tmps[u]?.getD undef = .pointer (some ⟨G,0,none⟩):=by rw [← hv,← e2]; simp
 have e3':(act n f).tmps[s]?.getD undef = v':=by rw [← hs,← e3]; simp
 simp [results,hr,e',e2',e3',asAddr,hl]
theorem OMat.kp {MM:Nat→Prop} {w w':World} {gO:Nat} {gs:Nat→Nat} {r c:Nat} {M:Nat→Nat→Int} (h:OMat w gO gs r c M) (hk:Kp w w') (hC:Ch MM w w') (hn:¬ MM gO) (hr:∀ i,i < r→¬ MM (gs i)):OMat w' gO gs r c M :=
 ⟨h.outer.ch hC hn,fun i hi=>by obtain ⟨hh,hb,hc⟩:=h.row i hi; exact ⟨hh,hb.ch hC (hr i hi),fun j hj=>(hc j hj).kp hk⟩,h.ne,h.inj⟩
theorem adjS_ok (v:Value) (r N:Nat) (M:Nat→Nat→Int) (w:World) (h:MatE (EI N) w v r (fun _=>r) M) (hN1:1≤N) (hN:N < 1048576) (h1:1≤r) (h2:r≤16) :
 Meets Tryz.prog 84 #[v] w fun v w'=>Ext w w'∧∃ gO gs,v = .tuple #[.slice (some ⟨gO,0,none⟩) r r,.bool true]∧w.heap.size≤gO∧(∀ i,i < r→w.heap.size≤gs i)∧OMat w' gO gs r r (adjF r M) :=
 (adjugateX_ok v r N _ M w h hN1 hN).mono fun _ _ h=>by
  obtain ⟨u,rfl,hE,gO,gs,rfl,ha,hb,hO⟩:=h.get (okS_const h1 h2)
  exact ⟨hE,gO,gs,rfl,ha,hb,hO⟩
def RDu (w:World) (e r:Nat) (A:Nat→Nat→Int) (d:Int) (v:Value) (w':World):Prop :=
 Ext w w'∧∃ u x y,v = .tuple #[u,.agg #[x,y],.int .i64 ((e:Nat):Int)]∧CV w' x y (if e = 0 then d else 0) ∧
  ((e ≠ 0∧u = .slice none 0 0) ∨ (e = 0∧∃ gO gs,u = .slice (some ⟨gO,0,none⟩) r r∧w.heap.size≤gO∧(∀ i,i < r→w.heap.size≤gs i)∧OMat w' gO gs r r A))
set_option maxHeartbeats 16000000 in
theorem gdual_ok (va:Value) (r N:Nat) (len:Nat→Nat) (M:Nat→Nat→Int) (w:World) (ha:MatE (EI N) w va r len M) (hN1:1≤N) (hN:N < 1048576) :
 Meets Tryz.prog 30 #[va] w (RDu w (valE r len M) r (adjF r M) (det r M)):=by
 refine fn_W (n:=25) Tryz.func30 rfl rfl (by kernel_rfl) (by simp) ?_
 have ha0:=ha
 have hX:Ext w w:=Ext.refl w
 refine gg ?_
 refine gg ?_
 refine R1_alloc (.inl rfl) z_Int ?_
 intro w_1 hB0_ hE_ hs_
 have hR:=Bx.zero (N:=1) true hB0_
 obtain ⟨gR,hg_⟩ : ∃ g,g = w.heap.size:=⟨_,rfl⟩
 rw [← hg_] at hR ⊢
 have hfr_gR:w.heap.size≤gR:=by have:=hX.size; omega
 replace ha:=ha.ext hE_
 replace hX:=hX.trans hE_
 clear hB0_ hs_ hg_ hE_
 refine gg ?_
 refine gg ?_
 refine R1_call2 (gdet_ok va r N len M w_1 ha hN1 hN) ?_
 rintro _ w_2 ⟨hE_,x,y,rfl,hcv⟩
 replace ha:=ha.ext hE_
 replace hR:=hR.ext hE_
 replace hX:=hX.trans hE_
 clear hE_
 have h5:=valE_le r len M
 refine gg ?_
 refine gg ?_
 refine R1_alloc (.inl rfl) z_Int ?_
 intro w_3 hB0_ hE_ hs_
 have hD:=Bx.zero (N:=1) true hB0_
 obtain ⟨gD,hg_⟩ : ∃ g,g = w_2.heap.size:=⟨_,rfl⟩
 rw [← hg_] at hD ⊢
 have hfr_gD:w.heap.size≤gD:=by have:=hX.size; omega
 have hne_gD_gR:gD ≠ gR:=by have:=hR.lt; omega
 replace ha:=ha.ext hE_
 replace hR:=hR.ext hE_
 replace hcv:=hcv.ext hE_
 replace hX:=hX.trans hE_
 clear hB0_ hs_ hg_ hE_
 by_cases h0:valE r len M = 0
 rotate_left
 · rw [if_neg h0] at hcv
   refine gg ?_
   refine gg ?_
   refine R1_storeBx (by first | exact .inl rfl | exact .inr ⟨rfl,fun _ h=>h.mono fun b _ e=>by omega⟩) rfl rfl hD (hcv.ev true (Bd.zero 1)) ?_
   intro w_4 hD hC_ hk_ hs_
   clear ha
   replace hR:=hR.kp hk_ hC_ (by first | omega | assumption)
   replace hcv:=hcv.kp hk_
   replace hX:=hC_.ext_of hX (fun b hb=>by omega)
   clear hC_ hk_ hs_
   refine gg ?_
   refine W_seq ?_
   refine gg ?_
   refine R1_bld0 b0_Int ?_
   refine gg ?_
   refine gg ?_
   refine R1_storeBx (by first | exact .inl rfl | exact .inr ⟨rfl,fun _ h=>h.mono fun b _ e=>by omega⟩) rfl rfl hR ((CV.zero w_4).ev true (Bd.zero 1)) ?_
   intro w_5 hR hC_ hk_ hs_
   replace hcv:=hcv.kp hk_
   replace hD:=hD.kp hk_ hC_ (by first | omega | assumption)
   replace hX:=hC_.ext_of hX (fun b hb=>by omega)
   clear hC_ hk_ hs_
   obtain ⟨u,v,hU,hV⟩:=hR
   refine gg ?_
   refine retTCT (v:=.slice none 0 0) (v':=.int _ _) rfl agg_Int rfl rfl hU rfl ⟨hX,_,u,v,rfl,?_,.inl ⟨h0,rfl⟩⟩
   rw [if_neg h0]; exact hV.2 rfl
 rw [if_pos h0] at hcv
 obtain ⟨hok,h8,_⟩:=valE_zero.1 h0
 obtain ⟨hr1,hr2,hlen⟩:=okS_iff.1 hok
 have hbd:Bd (Nb N r) (det r M):=by rw [← detB_det]; exact detB_bd hN1 fun i j hi hj=>(ha0.sq hlen).bd hi hj
 refine gg ?_
 refine gg ?_
 refine R1_storeBx (by first | exact .inl rfl | exact .inr ⟨rfl,fun _ h=>h.mono fun b _ e=>by omega⟩) rfl rfl hD (hcv.ev true hbd) ?_
 intro w_6 hD hC_ hk_ hs_
 clear ha
 replace hR:=hR.kp hk_ hC_ (by first | omega | assumption)
 replace hcv:=hcv.kp hk_
 replace hX:=hC_.ext_of hX (fun b hb=>by omega)
 clear hC_ hk_ hs_
 rw [h0]
 refine gg ?_
 refine W_seq ?_
 refine gg ?_
 have hsz:=hX.size
 have hRl:=hR.lt
 refine gg ?_
 refine R1_call2 (adjS_ok _ r N M w_6 ((ha0.sq hlen).ext hX) hN1 hN hr1 hr2) ?_
 rintro _ w_7 ⟨hE_,gO,gs,rfl,hgO,hgs,hO⟩
 replace hR:=hR.ext hE_
 replace hcv:=hcv.ext hE_
 replace hD:=hD.ext hE_
 replace hX:=hX.trans hE_
 clear hE_
 refine gg ?_
 refine gg ?_
 refine W_seqD [(0,3),(1,0),(2,3),(3,2),(4,3)] mixed (by kernel_rfl) (fun w_8 hE_ _=>?_)
 replace hR:=hR.ext hE_
 replace hcv:=hcv.ext hE_
 replace hD:=hD.ext hE_
 replace hO:=hO.ext hE_
 replace hX:=hX.trans hE_
 clear hE_
 obtain ⟨hD_u,hD_v,hD_B,hD_V⟩:=id hD
 obtain ⟨hD_0,hD_1⟩:=blkP hD_B
 refine gg ?_
 refine R1_storeBx (.inl rfl) rfl rfl hR hD_V ?_
 intro w9 hR9 hC9 hk9 hs9
 have hO9:=hO.kp hk9 hC9 (by omega) (fun i hi=>by have:=hgs i hi; omega)
 have hX9:=hC9.ext_of hX (fun q e=>by omega)
 obtain ⟨u,v,hU,hV⟩:=hR9
 refine gg ?_
 refine retTCT (v:=.slice (some ⟨gO,0,none⟩) r r) (v':=.int .i64 ((0:Nat):Int)) rfl agg_Int rfl rfl hU rfl ⟨hX9,_,u,v,rfl,?_,.inr ⟨rfl,gO,gs,rfl,by omega,fun i hi=>by have:=hgs i hi; omega,hO9⟩⟩
 rw [if_pos rfl]; exact hV.2 rfl
end Go.Proofs.YtncbjgblcofddaaGreatDoor
