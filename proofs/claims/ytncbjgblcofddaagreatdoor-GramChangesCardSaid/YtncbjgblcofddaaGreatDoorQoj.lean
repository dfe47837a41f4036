/- Joined: Awg, Nea. -/
import Derived.Test.YtncbjgblcofddaaGreatDoorQoh
import Derived.Test.YtncbjgblcofddaaGreatDoorQnh
import Derived.Test.YtncbjgblcofddaaGreatDoorQnb
import Derived.Test.YtncbjgblcofddaaGreatDoorQe
import Derived.Test.YtncbjgblcofddaaGreatDoorQnj
import Derived.Test.YtncbjgblcofddaaGreatDoorQf
/- quadformlaw07.awake. -/
namespace Go.Proofs.YtncbjgblcofddaaGreatDoor
open Go Go.Eng Go.Num Go.Dig Go.Proofs
open Go.Det (det)
theorem a7_val:valE 2 (fun _=>2) (lit2 2 1 1 2) = 0:=by
 refine valE_0 ⟨okS22,by decide⟩ (fun i j hi hj=>?_) fun q hq=>?_
 · obtain rfl:i = 1:=by omega
   obtain rfl:j = 0:=by omega
   rfl
 · have:q = 0 ∨ q = 1:=by omega
   rcases this with rfl | rfl
   · rw [show 0 + 1 = 1 from rfl,det1]; decide
   · rw [show 1 + 1 = 2 from rfl,det2]; decide
theorem a7_okT:okT 2 (lit2 2 1 1 2):=by
 intro i j hi hj
 have:lit2 2 1 1 2 i j = 1 ∨ lit2 2 1 1 2 i j = 2:=by
  have hi':i = 0 ∨ i = 1:=by omega
  have hj':j = 0 ∨ j = 1:=by omega
  rcases hi' with rfl | rfl <;> rcases hj' with rfl | rfl <;> decide
 rcases this with e | e <;> rw [e] <;> decide
theorem a7_text:formT 2 (lit2 2 1 1 2) = [102,111,114,109,32,50,10,50,10,49,32,50,10]:=by decide
theorem a7_adj:∀ i j,i < 2→j < 2→adjF 2 (lit2 2 1 1 2) i j = lit2 2 (-1) (-1) 2 i j:=by
 intro i j hi hj
 have hi':i = 0 ∨ i = 1:=by omega
 have hj':j = 0 ∨ j = 1:=by omega
 rcases hi' with rfl | rfl <;> rcases hj' with rfl | rfl <;> decide
set_option maxHeartbeats 16000000 in
theorem awake7_ok (w:World) (hm:ML w):Meets Tryz.prog 16 #[] w fun v w'=>Ext w w'∧v = .bool true:=by
 have bA:=lit2_bd (a:=2) (b:=1) (c:=1) (d:=2) (bd2 (by decide)) (bd2 (by decide)) (bd2 (by decide)) (bd2 (by decide))
 refine fn_W (n:=61) Tryz.func16 rfl rfl (by kernel_rfl) (by simp) ?_
 refine gb ?_
 refine R1_build2 sl_i64 rfl (.inl rfl) rfl rfl rfl rfl ?_
 intro w1 hB1 hE1 hs1
 refine gb ?_
 refine R1_build2 sl_i64 rfl (.inl rfl) rfl rfl rfl rfl ?_
 intro w2 hB2 hE2 hs2
 refine gb ?_
 refine R1_build2 sl_si64 rfl (.inl rfl) rfl rfl rfl rfl ?_
 intro w3 hB3 hE3 hs3
 refine gb ?_
 refine R1_call2 (rof_ok _ 2 (fun _=>2) (lit2 2 1 1 2) w3 (matZ_lit hB3 (hB1.ext (hE2.trans hE3)) (hB2.ext hE3) (by decide) (by decide) (by decide) (by decide))) ?_
 intro v w4 hv
 obtain ⟨hE4,gA,gsA,rfl,_,_,hOA⟩:=hv.get okM22
 have hX:=hE1.trans (hE2.trans (hE3.trans hE4))
 clear hv hE1 hE2 hE3 hE4 hB1 hB2 hB3 hs1 hs2 hs3
 refine gb ?_
 refine R1_call2 (gformat_ok _ 2 2 (fun _=>2) (lit2 2 1 1 2) w4 (hOA.read (fun i j _ _=>bA i j) (by decide) (by decide)) (by decide) (by decide)) ?_
 rintro _ w5 ⟨hE5,⟨h0,_⟩ | ⟨_,⟨_,rfl⟩ | ⟨hno,_⟩⟩⟩
 · exact absurd a7_val h0
 rotate_left
 · exact absurd a7_okT hno
 rw [a7_text]
 replace hX:=hX.trans hE5
 refine gb ?_
 refine R1_call2 (gparse_ok _ w5 (hm.ext hX) (by decide)) ?_
 rintro _ w6 ⟨hE6,⟨_,rfl⟩ | ⟨h0,_⟩⟩
 rotate_left
 · rw [awk_perr] at h0; cases h0
 rw [awk_perr]
 replace hX:=hX.trans hE6
 have hO6:=(hOA.ext hE5).ext hE6
 refine gb ?_
 refine R1_call2 (gdual_ok _ 2 2 (fun _=>2) (lit2 2 1 1 2) w6 (hO6.read (fun i j _ _=>bA i j) (by decide) (by decide)) (by decide) (by decide)) ?_
 rintro _ w7 ⟨hE7,u,x,y,rfl,hcv,⟨h0,_⟩ | ⟨_,gO,gs,rfl,_,_,hOD⟩⟩
 · exact absurd a7_val h0
 rw [a7_val] at hcv ⊢
 rw [if_pos rfl] at hcv
 replace hX:=hX.trans hE7
 refine gb ?_
 refine R1_alloc (.inl rfl) z_Int ?_
 intro w8 hB8 hE8 hs8
 rw [show (Value.agg #[Value.bool false,Value.slice none 0 0]).cells = #[Value.bool false,Value.slice none 0 0] from by simp [Value.cells]] at hB8
 refine gb ?_
 refine R1_store2 agg_Int (.inl rfl) rfl rfl hcv.one0 hcv.one1 hB8 (by simp) ?_
 intro w9 hB9 hC9 hs9
 rw [pair_set'] at hB9
 have hE79:Ext w7 w9:=hC9.ext_of hE8 (fun q e=>by omega)
 have hcv9:=(hcv.ext hE8).kp (kp_ch hB8 (fun i z=>by
  match i with
  | 0=>simp
  | 1=>simp
  | i + 2=>simp) hC9)
 have hO9:=hOD.ext hE79
 replace hX:=hX.trans hE79
 have d1:=blk0 hB9
 have d2:=blk1 hB9
 refine gb ?_
 refine W_seqG [(0,3),(1,3),(2,3),(3,3),(4,3),(5,3),(6,3),(7,3),(8,3),(9,3),(10,3),(11,3),(12,3),(13,3),(14,3),(15,3),(16,3),(17,3),(18,3),(19,3)] [(20,[],[]),(21,[],[])] [(22,2),(23,1),(24,1),(25,3),(26,3),(27,0),(28,1),(29,1),(30,3),(31,3)] mixed (by kernel_rfl) (fun w14 hE14 _=>?_)
 replace d1:=cell_ext hE14 d1
 replace d2:=cell_ext hE14 d2
 refine gb ?_
 refine Rg_float [] [fB 20 50 2 (.int .i64 2) (.int .i64 (-1)),fB 21 51 2 (.int .i64 (-1)) (.int .i64 2)] [50,51] (by kernel_rfl) (fun a ha f' w' hA _=>?_) ?_
 · have hg:ev 61 f' (.tmp 48) = .bool true:=by
    show (bif Nat.blt 48 61 then f' 48 else undef) = _
    rw [hA 48 (by decide) rfl]; rfl
   rcases List.mem_cons.1 ha with rfl | ha
   · refine Ro_yesL rfl rfl rfl hg rfl ?_
     refine R1_build2 sl_i64 rfl (.inr ⟨rfl,fun _ h=>h⟩) rfl rfl rfl rfl ?_
     intro w'' hB hE _
     exact Ro_nil ⟨rfl,hB,hE⟩
   · rcases List.mem_singleton.1 ha with rfl
     refine Ro_yesL rfl rfl rfl hg rfl ?_
     refine R1_build2 sl_i64 rfl (.inr ⟨rfl,fun _ h=>h⟩) rfl rfl rfl rfl ?_
     intro w'' hB hE _
     exact Ro_nil ⟨rfl,hB,hE⟩
 refine Rc_nil (fun w17 hE17 bs hbs _=>?_)
 obtain ⟨_,hB50⟩:=hbs _ List.mem_cons_self
 obtain ⟨_,hB51⟩:=hbs _ (List.mem_cons_of_mem _ List.mem_cons_self)
 have hB50:Blk w17 (bs 50) 2 #[.int .i64 2,.int .i64 (-1)]:=hB50
 have hB51:Blk w17 (bs 51) 2 #[.int .i64 (-1),.int .i64 2]:=hB51
 show Ro _ _ _ _ _ _ (upd (upd _ 51 (.slice (some ⟨bs 51,0,none⟩) 2 2)) 50 (.slice (some ⟨bs 50,0,none⟩) 2 2)) _
 generalize bs 50 = g50 at *
 generalize bs 51 = g51 at *
 refine gb ?_
 refine R1_build2 sl_si64 rfl (.inl rfl) rfl rfl rfl rfl ?_
 intro w18 hB18 hE18 hs18
 refine gb ?_
 refine R1_call1 (rof_ok _ 2 (fun _=>2) (lit2 2 (-1) (-1) 2) w18 (matZ_lit hB18 (hB50.ext hE18) (hB51.ext hE18) (by decide) (by decide) (by decide) (by decide))) ?_
 intro v w19 hv
 obtain ⟨hE19,gT,gsT,rfl,_,_,hOT⟩:=hv.get okM22
 refine ⟨hE19,?_⟩
 clear hv
 have hE919:=hE14.trans (hE17.trans (hE18.trans hE19))
 have hO19:=hO9.ext hE919
 have bV:=lit2_bd (a:=2) (b:=-1) (c:=-1) (d:=2) (bd2 (by decide)) (bd2 (by decide)) (bd2 (by decide)) (bd2 (by decide))
 refine gb ?_
 refine R1_call1 (rsameM_ok _ _ 2 2 2 (fun _=>2) (fun _=>2) _ _ w19 (hO19.readC (fun i j hi hj=>by rw [a7_adj i j hi hj]; exact bV i j) (by decide) (by decide)) (hOT.readC (fun i j _ _=>bV i j) (by decide) (by decide)) (by decide)) ?_
 rintro _ w20 ⟨hE20,b,rfl,hb⟩
 refine ⟨hE20,?_⟩
 have hb:b = true:=hb.2 ⟨rfl,fun i hi=>⟨rfl,fun j hj=>a7_adj i j hi hj⟩⟩
 subst hb
 have hE1720:=(hE17.trans (hE18.trans (hE19.trans hE20)))
 replace d1:=cell_ext hE1720 d1
 replace d2:=cell_ext hE1720 d2
 refine gb ?_
 refine R1_call1 (rsmall_ok 3 w20 (by decide) (by decide)) ?_
 rintro _ w21 ⟨hE21,tx,ty,rfl,hct⟩
 refine ⟨hE21,?_⟩
 have h3:det 2 (lit2 2 1 1 2) = 3:=by rw [det2]; decide
 rw [h3] at hcv9
 refine gb ?_
 refine R1_call1 (rsame_ok _ _ _ _ _ _ 2 2 w21 (hcv9.ext (hE14.trans (hE1720.trans hE21))) hct (by decide) (by decide) (bd2 (a:=3) (by decide)) (bd2 (a:=3) (by decide))) ?_
 rintro _ w22 ⟨hE22,rfl⟩
 refine ⟨hE22,?_⟩
 rw [show decide ((3:Int) = 3) = true from rfl]
 refine gb ?_
 exact ret1 (v:=.bool _) rfl rfl ⟨hX.trans (hE14.trans (hE1720.trans (hE21.trans hE22))),rfl⟩
end Go.Proofs.YtncbjgblcofddaaGreatDoor
namespace Go.Proofs.YtncbjgblcofddaaGreatDoor
open Go Go.Eng Go.Num Go.Proofs
open Go.Det (det)
def Sm7 (r:Nat) (len:Nat→Nat) (L:Nat→Nat→Nat):Prop:=r≤100∧∀ i,i < r→len i≤100∧∀ j,j < len i→L i j≤100
set_option maxHeartbeats 8000000 in
theorem large7_ok (v:Value) (r:Nat) (len:Nat→Nat) (M:Nat→Nat→Int) (L:Nat→Nat→Nat) (w:World) (h:MatL w v r len M L) :
 Meets Tryz.prog 15 #[v] w fun u w'=>w = w'∧∃ b,u = .bool b∧(b = false→Sm7 r len L):=by
 obtain ⟨A,cap,rfl,hrc,hcap,hr47,hrow⟩:=h
 refine fn_W (n:=51) Tryz.func15 rfl rfl (by kernel_rfl) (by simp) ?_
 refine gh ?_
 refine W_seqM (fun f w'=>w = w'∧∃ n,f 3 = .int .i64 ((n:Nat):Int)∧(n≤100→Sm7 r len L)) ?_ ?_
 · refine gh ?_
   refine W_loop (fun m f w'=>w = w'∧∃ i n,m = r - i∧i≤r∧f 0 = .slice A r cap∧f 3 = .int .i64 ((n:Nat):Int)∧f 4 = .int .i64 ((i:Nat):Int)∧r≤n∧n≤281474976710656∧(n < 1000→∀ k,k < i→len k≤n∧∀ j,j < len k→L k j≤n))
    r ⟨rfl,0,r,rfl,Nat.zero_le _,rfl,rfl,rfl,Nat.le_refl _,by omega,fun _ k hk=>absurd hk (by omega)⟩ ?_
   rintro m f w' ⟨rfl,i,n,rfl,hi,hf0,hf3,hf4,hrn,hn,hk⟩
   rw [ui hf0,ui hf3,ui hf4]
   clear hf0 hf3 hf4
   refine W_seq ?_
   by_cases hlt:i < r
   · by_cases hn1:n < 1000
     · obtain ⟨ad,u,rfl,hu,hru⟩:=hrow i hlt
       obtain ⟨Ai,capi,rfl,hci,hcapi,hc47,hent⟩:=hru
       refine gh ?_
       refine W_loop (fun m f w'=>w = w'∧∃ j q,m = len i - j∧j≤len i∧f 0 = .slice (some ad) r cap∧f 3 = .int .i64 ((q:Nat):Int)∧f 4 = .int .i64 ((i:Nat):Int)∧f 5 = .int .i64 ((j:Nat):Int)∧n + len i≤q∧q≤281474976710656∧(q < 1000→∀ t,t < j→L i t≤q))
        (len i) ⟨rfl,0,n + len i,rfl,Nat.zero_le _,rfl,rfl,rfl,rfl,Nat.le_refl _,by omega,fun _ t ht=>absurd ht (by omega)⟩ ?_
       rintro m f w' ⟨rfl,j,q,rfl,hj,hf0,hf3,hf4,hf5,hnq,hq,hkj⟩
       rw [ui hf0,ui hf3,ui hf4,ui hf5]
       clear hf0 hf3 hf4 hf5
       refine W_seq ?_
       by_cases hjl:j < len i
       · by_cases hq1:q < 1000
         · obtain ⟨ad2,x,y,rfl,hx,hy,neg,B,l,c,rfl,rfl,hlc,hcc,hM,hll,hl47,_⟩:=hent j hjl
           have hy':w.cell? ((ad2.add (j * 2)).add 1) = some (.slice B l.length c):=hy
           refine gh ?_
           refine R1_fieldAddrG fa_Int1 rfl ?_
           refine gh ?_
           refine ⟨_,?_,rfl,j + 1,q + l.length,rfl,by omega,rfl,rfl,rfl,rfl,by omega,by omega,fun h t ht=>?_⟩
           · omega
           · by_cases e:t = j
             · subst e; omega
             · have:=hkj (by omega) t (by omega); omega
         · refine gh ?_
           refine ⟨_,?_,rfl,i + 1,q,rfl,by omega,rfl,rfl,rfl,by omega,hq,fun h=>absurd h hq1⟩
           omega
       · refine gh ?_
         refine ⟨_,?_,rfl,i + 1,q,rfl,by omega,rfl,rfl,rfl,by omega,hq,fun h k hk'=>?_⟩
         · omega
         · by_cases e:k = i
           · subst e
             exact ⟨by omega,fun t ht=>hkj h t (by omega)⟩
           · have:=hk hn1 k (by omega)
             exact ⟨by omega,fun t ht=>by have:=this.2 t ht; omega⟩
     · refine gh ?_
       exact ⟨rfl,n,rfl,fun h=>by omega⟩
   · refine gh ?_
     refine ⟨rfl,n,rfl,fun h=>⟨by omega,fun k hk'=>?_⟩⟩
     have:=hk (by omega) k (by omega)
     exact ⟨by omega,fun j hj=>by have:=this.2 j hj; omega⟩
 · rintro f w' ⟨rfl,n,hf3,hn⟩
   rw [ui hf3]
   clear hf3
   refine gh ?_
   refine ret1 (v:=.bool _) rfl rfl ⟨rfl,_,rfl,fun hb=>hn ?_⟩
   have:¬ (100 < n):=by simpa using hb
   omega
theorem Sm7.e {w:World} {v:Value} {r:Nat} {len:Nat→Nat} {M:Nat→Nat→Int} {L:Nat→Nat→Nat} (h:Sm7 r len L) (hm:MatL w v r len M L):MatE (EI 100) w v r len M:=hm.e fun i hi j hj=>(h.2 i hi).2 j hj
end Go.Proofs.YtncbjgblcofddaaGreatDoor
