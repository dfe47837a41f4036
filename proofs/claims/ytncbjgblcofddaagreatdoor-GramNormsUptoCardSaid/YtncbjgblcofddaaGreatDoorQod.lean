/- Joined: Bld. -/
import Derived.Test.YtncbjgblcofddaaGreatDoorQoc
/- strings.Builder: copyCheck,WriteString,WriteByte,String. -/
namespace Go.Proofs.YtncbjgblcofddaaGreatDoor
open Go Go.Eng Go.Num Go.Dig Go.Proofs
section
variable {P:Program} {n:Nat} {S:World→World→Prop} {K:Fr→World→Prop} {f:Fr} {w:World}
 {d ty t t2:Nat} {x:Operand} {pos:String} {aft:Array Edge} {gd:Option (Nat × Bool)}
theorem R1_convW {v v':Value} (hx:ev n f x = v) (hr:(convert t t2 v).run P w = .ok v' w) (h:K (upd f d v') w):R1 P n S 2 ⟨some d,.convert t t2 x,ty,pos,aft,gd⟩ K f w:=by
 refine R1_loud (v:=v') (w':=w) (.inl rfl) ?_ h
 simp only [execOp,hx,Sem.run_bind,hr,Result.andThen_ok,Sem.run_pure]
theorem R1_ext1 {g:FuncId} {v v':Value} {ats:Array TypeId} (hx:ev n f x = v) (hr:(callFunc g #[v]).run P w = .ok (.value v') w) (h:K (upd f d v') w) :
 R1 P n S 2 ⟨some d,.call { callee:=.value (.func g),args:=#[x],argTypes:=ats },ty,pos,aft,gd⟩ K f w:=by
 refine R1_loud (v:=v') (w':=w) (.inl rfl) ?_ h
 have e:ev n f (.func g) = .func (.func g) #[] #[]:=rfl
 simp only [execOp,resolve,e,Deferred.ofValue,invoke,Sem.run_bind,Sem.run_pure,Result.andThen_ok,List.map_toArray,List.map_cons,List.map_nil,hx,Array.append_empty,Array.empty_append,hr]
end
theorem one_pB:oneTy Tryz.prog 92 = true:=by kernel_rfl
theorem one_sB:oneTy Tryz.prog 61 = true:=by kernel_rfl
theorem fa_Bd0:FieldA Tryz.prog 94 0 0:=by
 unfold FieldA
 intro a w
 simp [Instr.fieldAt,run_underlying Tryz.underlying94,Instr.sureAddr,fieldPlace]
theorem fa_Bd1:FieldA Tryz.prog 94 1 1:=by
 unfold FieldA
 intro a w
 simp [Instr.fieldAt,run_underlying Tryz.underlying94,Instr.sureAddr,fieldPlace]
def Sbd (w:World) (base b:Nat) (l:List UInt8):Prop :=
 base≤b∧∃ p v,(p = .pointer none ∨ p = .pointer (some ⟨b,0,none⟩))∧Blk w b 94 #[p,v]∧OwB w base v l∧v.ownBlock ≠ some b
theorem Sbd.ext {w w':World} {base b:Nat} {l:List UInt8} (h:Sbd w base b l) (hE:Ext w w'):Sbd w' base b l:=by
 obtain ⟨h1,p,v,h2,hb,ho,hn⟩:=h
 exact ⟨h1,p,v,h2,hb.ext hE,ho.ext hE,hn⟩
theorem Sbd.new {w:World} {b:Nat} (hb:Blk w b 94 #[.pointer none,.slice none 0 0]) (base:Nat) (h:base≤b):Sbd w base b [] :=
 ⟨h,_,_,.inl rfl,hb,OwB.nil _ _,by simp [Value.ownBlock]⟩
theorem z_Sbd:ZeroTy Tryz.prog 94 (.agg #[.pointer none,.slice none 0 0]):=by unfold ZeroTy; kernel_rfl
theorem run_eql_pnn (w:World):(binOp .eql 92 (.pointer none) (.pointer none)).run Tryz.prog w = .ok (.bool true) w:=by
 have h:∀ d:Nat,(Op.equalIn (d + 1) 92 (.pointer none) (.pointer none)).run Tryz.prog w = .ok true w:=fun d=>by
  simp [Op.equalIn,run_underlying Tryz.underlying92]
 simp only [binOp]
 simp [Op.equal,Op.maxDepth,h 9999]
theorem run_eql_psn (w:World) (a:Addr):(binOp .eql 92 (.pointer (some a)) (.pointer none)).run Tryz.prog w = .ok (.bool false) w:=by
 have h:∀ d:Nat,(Op.equalIn (d + 1) 92 (.pointer (some a)) (.pointer none)).run Tryz.prog w = .ok false w:=fun d=>by
  simp [Op.equalIn,run_underlying Tryz.underlying92]
 simp only [binOp]
 simp [Op.equal,Op.maxDepth,h 9999]
theorem run_neq_pss (w:World) (a:Addr):(binOp .neq 92 (.pointer (some a)) (.pointer (some a))).run Tryz.prog w = .ok (.bool false) w:=by
 have hi:(Tryz.prog.info? 94).isSome = true:=by kernel_rfl
 obtain ⟨j,hj⟩:=Option.isSome_iff_exists.1 hi
 exact Lib.run_neq_ptr_same w a Tryz.underlying92 hj
set_option maxHeartbeats 8000000 in
theorem copyCheck_ok (base b:Nat) (l:List UInt8) (w:World) (h:Sbd w base b l) :
 Meets Tryz.prog 130 #[.pointer (some ⟨b,0,none⟩)] w fun v w'=>v = .tuple #[]∧Sbd w' base b l∧Ch (fun q=>q = b) w w'∧w'.heap.size = w.heap.size:=by
 obtain ⟨h1,p,v,h2,hb,ho,hn⟩:=h
 refine fn_W (n:=20) Tryz.func130 rfl rfl (by kernel_rfl) (by simp) ?_
 have c0:w.cell? ⟨b,0 + 0,none⟩ = some p:=by rw [hb.cell]; rfl
 refine gb ?_
 refine R1_fieldAddr fa_Bd0 rfl ?_
 refine gb ?_
 refine R1_load1F (by decide) one_pB rfl c0 ?_
 refine gb ?_
 rcases h2 with rfl | rfl
 · refine R1_bin (vx:=.pointer none) (vy:=.pointer none) rfl rfl (fun _=>by simp [eqGuard,go_sem]) (fun w=>run_eql_pnn w) ?_
   refine gb ?_
   have hi:((Tryz.prog.info? 94).map fun j=>j.size) = some 2:=by kernel_rfl
   obtain ⟨j,hj,hjs⟩:=Option.map_eq_some_iff.1 hi
   have hsh:w.shape? b = some (94,2):=by
    unfold Blk at hb
    simp [World.shape?,hb]
   refine R1_convW rfl (Lib.run_to_unsafe w ⟨b,0,none⟩ Tryz.underlying92 Tryz.underlying167 hj (by rw [hjs]; decide) hsh (show 0 < 2 by decide)) ?_
   refine gb ?_
   refine R1_ext1 (v':=.pointer (some ⟨b,0,none⟩)) rfl ?_ ?_
   · rw [run_callFunc_extern Tryz.func171 (by kernel_rfl) (by kernel_rfl) (by kernel_rfl) (e:=Extern.AbiNoEscape.same) (by kernel_rfl),show ev 20 _ (Operand.tmp 9) = Value.pointer (some ⟨b,0,none⟩) from rfl,Lib.run_noEscape]
     rfl
   refine gb ?_
   refine R1_convW rfl (Lib.run_from_unsafe w ⟨b,0,none⟩ Tryz.underlying167 Tryz.underlying92 hj hsh (by kernel_rfl)) ?_
   refine gb ?_
   refine R1_fieldAddr fa_Bd0 rfl ?_
   refine gb ?_
   refine Go.Eng.R1_storeP one_pB (.inl rfl) rfl rfl hb (by simp) ?_
   intro w1 hb1 hC1 hs1
   refine gb ?_
   refine ret0 rfl ⟨rfl,⟨h1,_,_,.inr rfl,hb1,ho.ch hC1 (fun q hq e=>hn (by rw [← e]; exact hq.symm)),hn⟩,hC1,hs1⟩
 · refine R1_bin (vx:=.pointer (some ⟨b,0,none⟩)) (vy:=.pointer none) rfl rfl (fun _=>by simp [eqGuard,go_sem]) (fun w=>run_eql_psn w _) ?_
   refine gb ?_
   refine R1_fieldAddr fa_Bd0 rfl ?_
   refine gb ?_
   refine R1_load1F (by decide) one_pB rfl c0 ?_
   refine gb ?_
   refine R1_bin (vx:=.pointer (some ⟨b,0,none⟩)) (vy:=.pointer (some ⟨b,0,none⟩)) rfl rfl (fun _=>by simp [eqGuard,go_sem]) (fun w=>run_neq_pss w _) ?_
   refine gb ?_
   exact ret0 rfl ⟨rfl,⟨h1,_,_,.inr rfl,hb,ho,hn⟩,Ch.refl _ _,rfl⟩
theorem bcs_cells (l:List UInt8):Lib.strCells ⟨l.toArray⟩ = bcs l:=by simp [Lib.strCells,bcs]
theorem R1_appS {n:Nat} {S:World→World→Prop} {K:Fr→World→Prop} {f:Fr} {w:World} {d ty:Nat} {x y:Operand} {pos:String} {aft:Array Edge} {gd:Option (Nat × Bool)} {base:Nat} {v:Value} {l s:List UInt8}
 (hx:ev n f x = v) (hown:OwB w base v l) (hy:ev n f y = Tx s) (hl:l.length + s.length < 4398046511104) (hbase:base≤w.heap.size)
 (h:∀ v' w',OwB w' base v' (l ++ s)→Ch (fun b=>some b = v.ownBlock) w w'→K (upd f d v') w') :
 R1 Tryz.prog n S 2 ⟨some d,.call { callee:=.builtin .append,args:=#[x,y],argTypes:=#[61,9] },ty,pos,aft,gd⟩ K f w:=by
 have hi:(Tryz.prog.info? 5).map (fun i=>(i.zero,i.size,i.bytes)) = some (some (.int .u8 0),1,1):=by kernel_rfl
 obtain ⟨i,hi,he⟩:=Option.map_eq_some_iff.1 hi
 simp only [Prod.mk.injEq] at he
 obtain ⟨v',w',hr,h2,h3,_⟩:=Lib.run_append_own_string (P:=Tryz.prog) w base 61 9 ty 5 i Tryz.underlying61 Tryz.underlying9 hi he.1 he.2.1 he.2.2 v l.length (bcs l) hown ⟨s.toArray⟩
  (by rw [tx_size]; simp only [maxLen]; omega) (by rw [tx_size]; omega) hbase
 refine R1_loud (v:=v') (w':=w') (.inl rfl) ?_ (h v' w' ?_ (ch_grown h3))
 · simp only [execOp,resolve,invoke,builtin,Sem.run_bind,Sem.run_pure,Result.andThen_ok,List.map_toArray,List.map_cons,List.map_nil,hx,hy,hr]
 · unfold OwB
   rw [List.length_append,show bcs (l ++ s) = bcs l ++ bcs s by simp [bcs]]
   rw [tx_size,bcs_cells] at h2
   exact h2
theorem OwB.other {w:World} {base b:Nat} {v:Value} {l:List UInt8} {cs:Array Value} (h:OwB w base v l) (hb:Blk w b 94 cs):v.ownBlock ≠ some b:=by
 intro e
 obtain ⟨_,cs',hb'⟩:=h.blk e.symm
 unfold Blk at hb hb'
 rw [hb] at hb'
 simp at hb'
set_option maxHeartbeats 8000000 in
theorem writeString_ok (base b:Nat) (l s:List UInt8) (w0 w:World) (hE:Ext w0 w) (hbase:w0.heap.size≤base) (h:Sbd w base b l) (hl:l.length + s.length < 4398046511104) :
 Meets Tryz.prog 71 #[.pointer (some ⟨b,0,none⟩),Tx s] w fun _v w'=>Sbd w' base b (l ++ s)∧Ext w0 w'∧base≤w'.heap.size∧b < w'.heap.size:=by
 refine fn_W (n:=19) Tryz.func71 rfl rfl (by kernel_rfl) (by simp) ?_
 refine gb ?_
 refine R1_call2 (copyCheck_ok base b l w h) ?_
 rintro _ w1 ⟨rfl,⟨h1,p,v,h2,hb,ho,hn⟩,hC1,hs1⟩
 have hE1:=hC1.ext_of hE (fun q e=>by omega)
 have c1:w1.cell? ⟨b,0 + 1,none⟩ = some v:=by rw [hb.cell]; rfl
 have hlt:=hb.lt
 refine gb ?_
 refine R1_fieldAddr fa_Bd1 rfl ?_
 refine gb ?_
 refine R1_load1F (by decide) one_sB rfl c1 ?_
 refine gb ?_
 refine R1_appS rfl ho rfl hl (by omega) ?_
 intro v2 w2 ho2 hC2
 have hb2:=hb.ch hC2 (fun e=>hn e.symm)
 have hE2:=hC2.ext_of hE1 (fun q e=>by have:=(ho.blk e).1; omega)
 have hne:=ho2.other hb2
 refine gb ?_
 refine R1_fieldAddr fa_Bd1 rfl ?_
 refine gb ?_
 have hv2:v2.oneCell' = true:=by
  rcases ho2.2 with ⟨rfl,_⟩ | ⟨g,cap,cur,rfl,_⟩ <;> rfl
 refine R1_store1 one_sB (.inl rfl) rfl rfl hv2 hb2 (by simp) ?_
 intro w3 hb3 hC3 hs3
 have hE3:=hC3.ext_of hE2 (fun q e=>by omega)
 have hlt3:=hb3.lt
 refine gb ?_
 exact ret2 rfl rfl rfl ⟨⟨h1,p,v2,h2,hb3,ho2.ch hC3 (fun q hq e=>hne (by rw [← e]; exact hq.symm)),hne⟩,hE3,by omega,hlt3⟩
set_option maxHeartbeats 8000000 in
theorem writeByte_ok (base b:Nat) (l:List UInt8) (c:UInt8) (w0 w:World) (hE:Ext w0 w) (hbase:w0.heap.size≤base) (h:Sbd w base b l) (hl:l.length < 4398046511104) :
 Meets Tryz.prog 74 #[.pointer (some ⟨b,0,none⟩),.int .u8 ((c.toNat:Nat):Int)] w fun _v w'=>Sbd w' base b (l ++ [c])∧Ext w0 w'∧base≤w'.heap.size∧b < w'.heap.size:=by
 refine fn_W (n:=17) Tryz.func74 rfl rfl (by kernel_rfl) (by simp) ?_
 refine gb ?_
 refine R1_call2 (copyCheck_ok base b l w h) ?_
 rintro _ w1 ⟨rfl,⟨h1,p,v,h2,hb,ho,hn⟩,hC1,hs1⟩
 have hE1:=hC1.ext_of hE (fun q e=>by omega)
 have c1:w1.cell? ⟨b,0 + 1,none⟩ = some v:=by rw [hb.cell]; rfl
 have hlt:=hb.lt
 refine gb ?_
 refine R1_fieldAddr fa_Bd1 rfl ?_
 refine gb ?_
 refine R1_load1F (by decide) one_sB rfl c1 ?_
 refine gb ?_
 refine R1_build1 sl_u8 rfl (.inl rfl) rfl rfl ?_
 intro wa hBa hEa hsa
 replace ho:=ho.ext hEa
 replace hb:=hb.ext hEa
 replace hE1:=hE1.trans hEa
 refine gb ?_
 refine R1_pushB rfl rfl ho rfl hBa hl (by omega) ?_
 intro v2 w2 ho2 hC2 _
 have hb2:=hb.ch hC2 (fun e=>hn e.symm)
 have hE2:=hC2.ext_of hE1 (fun q e=>by have:=(ho.blk e).1; omega)
 have hne:=ho2.other hb2
 refine gb ?_
 refine R1_fieldAddr fa_Bd1 rfl ?_
 refine gb ?_
 have hv2:v2.oneCell' = true:=by
  rcases ho2.2 with ⟨rfl,_⟩ | ⟨g,cap,cur,rfl,_⟩ <;> rfl
 refine R1_store1 one_sB (.inl rfl) rfl rfl hv2 hb2 (by simp) ?_
 intro w3 hb3 hC3 hs3
 have hE3:=hC3.ext_of hE2 (fun q e=>by omega)
 have hlt3:=hb3.lt
 refine gb ?_
 exact ret1 (v:=.nilIface) rfl rfl ⟨⟨h1,p,v2,h2,hb3,ho2.ch hC3 (fun q hq e=>hne (by rw [← e]; exact hq.symm)),hne⟩,hE3,by omega,hlt3⟩
theorem bcs_byteCells (l:List UInt8):Lib.byteCells l = bcs l:=by simp [Lib.byteCells,bcs]
theorem string_ok (base b:Nat) (l:List UInt8) (w0 w:World) (hE:Ext w0 w) (hbase:w0.heap.size≤base) (h:Sbd w base b l) :
 Meets Tryz.prog 75 #[.pointer (some ⟨b,0,none⟩)] w fun v w'=>Ext w0 w'∧v = Tx l:=by
 obtain ⟨h1,p,v,h2,hb,ho,hn⟩:=h
 have hlt:=hb.lt
 have hB:Lib.BuilderAt 94 5 base b p (Lib.byteCells l) w:=⟨h1,v,hb,by rw [bcs_byteCells,bcs_len]; exact ho,hn⟩
 have hI:Lib.IsBuilder 94 5 base b (Lib.byteCells l) w:=by
  rcases h2 with rfl | rfl
  · exact .inl hB
  · exact .inr hB
 refine ⟨enters_of Tryz.func75 rfl rfl,(Tryz.Builder_String_any base b l w hI (by omega)).mono ?_⟩
 rintro e w' ⟨rfl,hbl⟩
 exact ⟨_,rfl,ext_of_below hE hbase hbl,rfl⟩
end Go.Proofs.YtncbjgblcofddaaGreatDoor
