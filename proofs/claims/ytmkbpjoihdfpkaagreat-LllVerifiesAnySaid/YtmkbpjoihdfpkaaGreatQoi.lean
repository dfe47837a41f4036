/- Joined: Lat, Lau, Opl, Lav. -/
import Derived.Test.YtmkbpjoihdfpkaaGreatQnh
import Derived.Test.YtmkbpjoihdfpkaaGreatQo
import Derived.Test.YtmkbpjoihdfpkaaGreatQs
import Derived.Lib.SmallJoins
/- quadformmake: diagonal,chain,general,good. -/
namespace Go.Proofs.YtmkbpjoihdfpkaaGreat
open Go Go.Eng Go.Num Go.Proofs
open Go.Det (gr bm det Sy PM Red)
def dgM (D:Nat→Int):Nat→Nat→Int:=fun i j=>if i = j then D i else 0
structure ZPart (w:World) (gO:Nat) (gs:Nat→Nat) (r i c:Nat) (M:Nat→Nat→Int):Prop where
 outer:Outer 30 w gO r i c gs
 row:∀ t,t < i→RowW w (gs t) c (M t)
 gt:∀ t,t < i→gO < gs t
 inj:∀ t t',t < i→t' < i→gs t = gs t'→t = t'
theorem ZPart.full {w:World} {gO r c:Nat} {gs:Nat→Nat} {M:Nat→Nat→Int} (h:ZPart w gO gs r r c M):ZMat w gO gs r c M :=
 ⟨h.outer.full,h.row,fun t ht=>by have:=h.gt t ht; omega,h.inj⟩
theorem ZPart.ext {w w':World} {gO r i c:Nat} {gs:Nat→Nat} {M:Nat→Nat→Int} (h:ZPart w gO gs r i c M) (hE:Ext w w'):ZPart w' gO gs r i c M :=
 ⟨h.outer.ext hE,fun t ht=>Blk.ext (h.row t ht) hE,h.gt,h.inj⟩
theorem ZPart.ch {w w':World} {gO r i c:Nat} {gs:Nat→Nat} {M:Nat→Nat→Int} {MM:Nat→Prop} (h:ZPart w gO gs r i c M) (hC:Ch MM w w') (h1:¬ MM gO) (h2:∀ t,t < i→¬ MM (gs t)):ZPart w' gO gs r i c M :=
 ⟨h.outer.kp hC h1,fun t ht=>Blk.ch (h.row t ht) hC (h2 t ht),h.gt,h.inj⟩
theorem ZPart.put {w w':World} {gO r i c t j:Nat} {gs:Nat→Nat} {M:Nat→Nat→Int} {z:Int} (h:ZPart w gO gs r i c M) (ht:t < i) (hB:RowW w' (gs t) c (setZ (M t) j z)) (hC:Ch (fun b=>b = gs t) w w'):ZPart w' gO gs r i c (set2 M t j z):=by
 refine ⟨h.outer.kp hC (by have:=h.gt t ht; omega),fun q hq=>?_,h.gt,h.inj⟩
 by_cases e:q = t
 · subst e
   rw [set2_row]; exact hB
 · rw [set2_ne M j z e]
   exact Blk.ch (h.row q hq) hC (fun e2=>e (h.inj q t hq ht e2))
theorem ZPart.congr {w:World} {gO r i c:Nat} {gs:Nat→Nat} {M M':Nat→Nat→Int} (h:ZPart w gO gs r i c M) (e:∀ t j,t < i→j < c→M t j = M' t j):ZPart w gO gs r i c M' :=
 ⟨h.outer,fun t ht=>(h.row t ht).congr fun j hj=>e t j ht hj,h.gt,h.inj⟩
theorem ZPart.more {w w1 w2:World} {gO r i c g:Nat} {gs:Nat→Nat} {M:Nat→Nat→Int} (h:ZPart w gO gs r i c M) (hE:Ext w w1) (hg:w.heap.size≤g) (hr:RowW w1 g c (fun _=>0)) (hC:Ch (fun b=>b = gO) w1 w2)
 (hO:Outer 30 w2 gO r (i + 1) c (setN gs i g)):ZPart w2 gO (setN gs i g) r (i + 1) c (fun t=>if t = i then fun _=>0 else M t):=by
 have hl:=h.outer.lt
 have hlr:∀ t,t < i→gs t < w.heap.size:=fun t ht=>Blk.lt (h.row t ht)
 refine ⟨hO,fun t ht=>?_,fun t ht=>?_,fun t t' ht ht' e=>?_⟩
 · by_cases e:t = i
   · subst e
     simp only [setN,if_true]
     exact Blk.ch hr hC (by omega)
   · simp only [setN,if_neg e]
     exact Blk.ch (Blk.ext (h.row t (by omega)) hE) hC (by have:=h.gt t (by omega); omega)
 · by_cases e:t = i
   · simp only [setN,if_pos e]; omega
   · simp only [setN,if_neg e]; exact h.gt t (by omega)
 · simp only [setN] at e
   split at e <;> split at e
   · omega
   · have:=hlr t' (by omega); omega
   · have:=hlr t (by omega); omega
   · exact h.inj t t' (by omega) (by omega) e
theorem ZPart.at {w:World} {gO r i c t:Nat} {gs:Nat→Nat} {M:Nat→Nat→Int} (h:ZPart w gO gs r i c M) (ht:t < i) (hr:t < r):w.cell? ⟨gO,0 + t * 1,none⟩ = some (.slice (some ⟨gs t,0,none⟩) c c):=h.outer.at ht hr
set_option maxHeartbeats 8000000 in
theorem good_ok (v:Value) (n:Nat) (M:Nat→Nat→Int) (w:World) (h:MatZ w v n (fun _=>n) M) (hn1:1≤n) (hn:n≤16) :
 Meets Tryz.prog 52 #[v] w (REq w (valE n (fun _=>n) M = 0∧det n M≤10000)):=by
 refine fn_W (n:=16) Tryz.func52 rfl rfl (by kernel_rfl) (by simp) ?_
 have hoM:okM n (fun _=>n) = true:=okM_iff.2 ⟨⟨hn1,hn,hn1,hn⟩,fun _ _=>rfl⟩
 have bM:∀ i j,i < n→j < n→Bd 2 (M i j):=fun i j hi hj=>by
  have:=h.rng hi (j:=j) hj
  exact zbd this.1 this.2
 have hb2:=det_bdL (show 1≤2 by decide) (Nat.le_refl n) hn bM
 have hNb:=Nb_big (show 2 < 1048576 by decide) (Nat.le_refl 16)
 have hK1:1≤Nb 2 16:=by decide
 have hb1:Bd (Nb 2 16) 10000:=(show Bd 1 10000 by unfold Bd B; decide).mono hK1
 have hX:Ext w w:=Ext.refl w
 refine gh ?_
 refine R1_call2 (rof_ok v n (fun _=>n) M w h) ?_
 intro u w1 hu
 obtain ⟨hE1,gI,gsI,rfl,_,_,hO⟩:=hu.get hoM
 clear hu
 have hA:=hO.rd bM (Nat.le_refl _) (by omega) (by omega)
 replace hX:=hX.trans hE1
 refine gh ?_
 refine gh ?_
 refine R1_call2 (rvalidate_ok _ n 2 (fun _=>n) M w1 hA (by decide) (by decide)) ?_
 rintro _ w_1 ⟨hE_,rfl⟩
 replace hA:=hA.ext hE_
 replace hX:=hX.trans hE_
 clear hE_
 have h5:=valE_le n (fun _=>n) M
 by_cases h0:valE n (fun _=>n) M = 0
 rotate_left
 · refine gh ?_
   exact ret1 (v:=.bool _) rfl rfl ⟨hX,false,rfl,(fun h=>by cases h),fun h=>absurd h.1 h0⟩
 refine gh ?_
 refine gh ?_
 refine R1_call2 (rdet_ok _ n 2 M w_1 hA hn (by decide) (by decide)) ?_
 rintro _ w_2 ⟨hE_,x,y,rfl,h1⟩
 replace hA:=hA.ext hE_
 replace hX:=hX.trans hE_
 clear hE_
 rw [detB_det] at h1
 refine gh ?_
 refine R1_call2 (rsmall_ok 10000 w_2 (by decide) (by decide)) ?_
 rintro _ w_3 ⟨hE_,x0,x1,rfl,h2⟩
 replace hA:=hA.ext hE_
 replace h1:=h1.ext hE_
 replace hX:=hX.trans hE_
 clear hE_
 refine gh ?_
 refine R1_call2 (rcmpI_ok _ _ _ _ _ _ (Nb 2 16) w_3 (h1.iv hb2) (h2.iv hb1) (by omega)) ?_
 rintro _ w_4 ⟨hE_,rfl⟩
 replace hA:=hA.ext hE_
 replace h1:=h1.ext hE_
 replace h2:=h2.ext hE_
 replace hX:=hX.trans hE_
 clear hE_
 refine gh ?_
 refine ret1 (v:=.bool _) rfl rfl ⟨hX,_,rfl,?_⟩
 rw [decide_eq_true_iff,cmpI_le]
 exact ⟨fun h=>⟨h0,h⟩,fun h=>h.2⟩
end Go.Proofs.YtmkbpjoihdfpkaaGreat
namespace Go.Proofs.YtmkbpjoihdfpkaaGreat
open Go Go.Eng Go.Num Go.Proofs
open Go.Det (gr bm det Sy PM Red)
theorem set2_le {n N:Nat} {M:Nat→Nat→Int} {a b:Nat} {z:Int} (h:∀ i j,i < n→(M i j).natAbs≤N) (hz:z.natAbs≤N):∀ i j,i < n→(set2 M a b z i j).natAbs≤N:=by
 intro i j hi
 unfold set2
 split
 · exact hz
 · exact h i j hi
end Go.Proofs.YtmkbpjoihdfpkaaGreat
namespace Go.Proofs.YtmkbpjoihdfpkaaGreat
open Go Go.Eng Go.Num Go.Proofs
def LatV (w:World) (v:Value) (dm kd n:Nat) (ns:Nat→Int) (m:Nat) (ms:Nat→Int):Prop :=
 ∃ A cap A' cap',v = .agg #[.int .u8 ((dm:Nat):Int),.int .u8 ((kd:Nat):Int),.slice A n cap,.slice A' m cap']∧dm < 256∧kd < 256∧n≤cap∧m≤cap'∧Nums w A n ns∧Nums w A' m ms
section
variable {H:Type} {enc:TypeId × Value→H} {w:World} {sp:Nat→Bool} {hd:Bool}
theorem cells_Lat:Tryz.prog.cellsOf 27 = 4:=by kernel_rfl
theorem four_of_len {l:List Value} (h:l.length = 4):∃ a b c d,l = [a,b,c,d]:=by
 match l,h with
 | [a,b,c,d],_=>exact ⟨a,b,c,d,rfl⟩
theorem open_lat {v:Value} {d:DataW H} {ps:List MemPlace} (h:DataW.Trod enc Tryz.prog w 0 sp hd 27 v d ps) (hw:Wt 27 d) (hv:∃ cs,v = .agg cs) :
 ∃ dm kd n ns m ms,LatV w v dm kd n ns m ms:=by
 obtain ⟨cs,rfl⟩:=hv
 obtain ⟨fuel,h⟩:=h
 obtain ⟨y0,y1,y2,y3,n,e,hl,h0,h1,h2,h3⟩:=Go.Joins.trod_struct4 Tryz.underlying27 h
 rw [cells_Lat] at hl
 obtain ⟨a,b,c,f,e3⟩:=four_of_len hl
 rw [e3] at h0 h1 h2 h3
 have h0:DataW.trod enc Tryz.prog w 0 sp hd n 5 (([a,b,c,f].drop 0).take (Tryz.prog.cellsOf 5)) = some y0:=h0
 have h1:DataW.trod enc Tryz.prog w 0 sp hd n 5 (([a,b,c,f].drop 1).take (Tryz.prog.cellsOf 5)) = some y1:=h1
 have h2:DataW.trod enc Tryz.prog w 0 sp hd n 25 (([a,b,c,f].drop 2).take (Tryz.prog.cellsOf 25)) = some y2:=h2
 have h3:DataW.trod enc Tryz.prog w 0 sp hd n 25 (([a,b,c,f].drop 3).take (Tryz.prog.cellsOf 25)) = some y3:=h3
 rw [cells_u8] at h0 h1
 rw [cells_si8] at h2 h3
 have h0:DataW.trod enc Tryz.prog w 0 sp hd n 5 [a] = some y0:=h0
 have h1:DataW.trod enc Tryz.prog w 0 sp hd n 5 [b] = some y1:=h1
 have h2:DataW.trod enc Tryz.prog w 0 sp hd n 25 [c] = some y2:=h2
 have h3:DataW.trod enc Tryz.prog w 0 sp hd n 25 [f] = some y3:=h3
 injection e with e _
 subst e
 have ew:DataW.weights Tryz.prog 27 (.agg [y0.1,y1.1,y2.1,y3.1]) = DataW.weights Tryz.prog 5 y0.1 ++ (DataW.weights Tryz.prog 5 y1.1 ++ (DataW.weights Tryz.prog 25 y2.1 ++ (DataW.weights Tryz.prog 25 y3.1 ++ []))):=by rw [DataW.weights,Tryz.underlying27]; rfl
 have hw1:Wt 25 y2.1:=fun m hm=>hw m (by
  rw [ew]
  exact List.mem_append_right _ (List.mem_append_right _ (List.mem_append_left _ hm)))
 have hw2:Wt 25 y3.1:=fun m hm=>hw m (by
  rw [ew]
  exact List.mem_append_right _ (List.mem_append_right _ (List.mem_append_right _ (List.mem_append_left _ hm))))
 obtain ⟨A,m,cap,ns,e,hc,hN⟩:=open_i8s h2 hw1
 injection e with e
 subst e
 obtain ⟨A',m',cap',ms,e,hc',hN'⟩:=open_i8s h3 hw2
 injection e with e
 subst e
 obtain ⟨ra,rfl,hra⟩:=open_u8 h0
 obtain ⟨rb,rfl,hrb⟩:=open_u8 h1
 have e4:cs = #[.int .u8 ((ra:Nat):Int),.int .u8 ((rb:Nat):Int),.slice A m cap,.slice A' m' cap']:=by
  cases cs with | mk l=>exact congrArg Array.mk e3
 exact ⟨ra,rb,m,ns,m',ms,A,cap,A',cap',by rw [e4],hra,hrb,hc,hc',hN,hN'⟩
end
end Go.Proofs.YtmkbpjoihdfpkaaGreat
namespace Go.Proofs.YtmkbpjoihdfpkaaGreat
open Go Go.Eng Go.Num Go.Proofs
open Go.Det (gr bm det Sy PM Red)
theorem agg_Lat:aggTy Tryz.prog 27 4 = true:=by kernel_rfl
theorem fa_Lat0:FieldA Tryz.prog 27 0 0:=by
 unfold FieldA
 intro a w
 simp [Instr.fieldAt,run_underlying Tryz.underlying27,Instr.sureAddr,fieldPlace,size_one (one_of (t:=5) rfl)]
theorem fa_Lat1:FieldA Tryz.prog 27 1 1:=by
 unfold FieldA
 intro a w
 simp [Instr.fieldAt,run_underlying Tryz.underlying27,Instr.sureAddr,fieldPlace,size_one (one_of (t:=5) rfl)]
theorem fa_Lat2:FieldA Tryz.prog 27 2 2:=by
 unfold FieldA
 intro a w
 simp [Instr.fieldAt,run_underlying Tryz.underlying27,Instr.sureAddr,fieldPlace,size_one (one_of (t:=25) rfl)]
theorem fa_Lat3:FieldA Tryz.prog 27 3 3:=by
 unfold FieldA
 intro a w
 simp [Instr.fieldAt,run_underlying Tryz.underlying27,Instr.sureAddr,fieldPlace,size_one (one_of (t:=25) rfl)]
section
variable {P:Program} {n:Nat} {S:World→World→Prop} {k:Nat} {K:Fr→World→Prop} {f:Fr} {w:World} {d ty t t2:Nat} {x y:Operand} {pos:String} {aft:Array Edge} {g:Option (Nat × Bool)}
theorem R1_rem_u8L {a b:Nat} (hx:ev n f x = .int .u8 ((a:Nat):Int)) (hy:ev n f y = .int .u8 ((b:Nat):Int)) (hb:0 < b) (h:K (upd f d (.int .u8 ((a % b:Nat):Int))) w):R1 P n S k ⟨some d,.binOp .rem t x y t2,ty,pos,aft,g⟩ K f w:=by
 refine R1_bin hx hy (fun _=>by simp [eqGuard,go_sem]) (fun _=>?_) h
 have e:((b:Int) = 0) = False:=by (simp; omega)
 simp only [binOp,Op.intDiv,ne_eq,not_true_eq_false,if_false,e]
 rfl
end
theorem dg_det (D:Nat→Int):∀ n,(∀ i,i < n→1≤D i∧D i≤2)→1≤det n (dgM D)∧det n (dgM D)≤2 ^ n
 | 0,_=>by simp [det]
 | n + 1,h=>by
  obtain ⟨h1,h2⟩:=dg_det D n fun i hi=>h i (by omega)
  obtain ⟨h3,h4⟩:=h n (by omega)
  have e:det (n + 1) (dgM D) = D n * det n (dgM D):=by
   rw [Go.Det.det_last n _ fun j hj=>if_neg (by omega)]
   unfold dgM; rw [if_pos rfl]
  rw [e]
  have h5:=Int.mul_le_mul h3 h1 (by decide) (by omega)
  have h6:=Int.mul_le_mul h4 h2 (by omega) (by decide)
  rw [Int.pow_succ]
  omega
theorem dg_ok {D:Nat→Int} {n:Nat} (hn1:1≤n) (hn:n≤8) (h:∀ i,i < n→1≤D i∧D i≤2):valE n (fun _=>n) (dgM D) = 0∧det n (dgM D)≤10000:=by
 refine ⟨valE_0 ⟨okS_iff.2 ⟨hn1,by omega,fun _ _=>rfl⟩,hn⟩ (fun i j hi hj=>?_) fun q hq=>?_,?_⟩
 · unfold dgM; rw [if_neg (by omega),if_neg (by omega)]
 · have:=(dg_det D (q + 1) fun i hi=>h i (by omega)).1
   omega
 · have h2:=(dg_det D n h).2
   have h8:(2:Nat) ^ n≤2 ^ 8:=Nat.pow_le_pow_right (by decide) hn
   have e8:(2:Nat) ^ 8 = 256:=by decide
   have e9:((2 ^ n:Nat):Int) = (2:Int) ^ n:=by rw [Int.natCast_pow]; rfl
   omega
theorem blk40 {w:World} {g T:Nat} {x y z u:Value} (h:Blk w g T #[x,y,z,u]):w.cell? ⟨g,0 + 0,none⟩ = some x:=by rw [h.cell]; rfl
theorem blk41 {w:World} {g T:Nat} {x y z u:Value} (h:Blk w g T #[x,y,z,u]):w.cell? ⟨g,0 + 1,none⟩ = some y:=by rw [h.cell]; rfl
theorem blk42 {w:World} {g T:Nat} {x y z u:Value} (h:Blk w g T #[x,y,z,u]):w.cell? ⟨g,0 + 2,none⟩ = some z:=by rw [h.cell]; rfl
end Go.Proofs.YtmkbpjoihdfpkaaGreat
