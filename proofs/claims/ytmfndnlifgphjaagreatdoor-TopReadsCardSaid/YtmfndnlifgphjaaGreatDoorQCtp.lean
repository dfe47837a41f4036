/- The card of TopReads: a text in any basis is read, and reduced to a form with the same invariants. -/
import Derived.Test.YtmfndnlifgphjaaGreatDoorQzS
set_option maxHeartbeats 64000000
namespace Go.Proofs.YtmfndnlifgphjaaGreatDoor
open Go Go.cW Go.ChangeShapes Go.WideShapes Go.ChangeAt Go.RowKit Go.Proofs.Qq
set_option maxRecDepth 100000 in
theorem topReads_lifted(os:Os)(b:os.Started)(H:Type)(enc:TypeId×Value->H):
 ReturnsInHanded {} Tryz.checked os 3 .any (λw a=>(Rows.topReadsSpec.pre enc Tryz.prog Tryz.f3 [] false w a/\laidMetH Tryz.prog sY w)/\sizedMet enc Tryz.prog Tryz.f3 (OpenSpec.ofChange Rows.topReadsSpec) false w a)
  (Rows.topReadsSpec.post enc Tryz.prog Tryz.f3 false true false false):=by
 refine kC (C:=Tryz.checked) (X:=λw _=>laidMetH Tryz.prog sY w) (λ_ _ _ e h=>h.of_heap e) O0 b az Tryz.func3
  (ChangeSpec.witness_shaped (enc:=enc) (C:=Tryz.checked) (os:=os) (X:=λw _=>laidMetH Tryz.prog sY w) false (World.laidAll Tryz.prog os sY) #[.agg #[.int .u8 0,.int .u8 0,.slice none 0 0,.slice none 0 0]] 8 (World.laidAll_os _ _ _) (xB os _) az az az (Fi os _)) ?_
 intro W f a k h b b g e l;have c:∀(j:Nat) t v,Tryz.f3.params[j]?=some t->a[j]?=some v->Value.okWide Tryz.prog W .any f t v:=b;have d:(DataW.weightsEach Tryz.prog (Tryz.f3.params.toList++Rows.topReadsSpec.plain.varTypes Tryz.prog) (k++h)).all (·<=reachBytes)=true:=e;have m:=g;obtain⟨p,q,n,u,rfl,b,b⟩:=g;have i:DataW.TrodAll enc Tryz.prog W 0 (λ_=>true) true Tryz.f3.params.toList a.toList k p:=n;rw[Tryz.params3]at i c d;obtain⟨o,a,rfl,rfl,y⟩:=trodAll_one i;obtain⟨rfl,rfl⟩:=trodVars_none u;obtain⟨a,a,a,a,a,a,a⟩:=G8 y (NI d (j:=0) F rfl) (Nf Tryz.underlying24 (c 0 _ o F rfl));refine(z6 (w:=W) (N6 l) a).calls.mono λe a ⟨v,s,x,r⟩=>?_;subst r;exact⟨_,s,Hl N8 az F m F rfl Tryz.underlying4 x⟩
theorem wH:Rows.TopReadsSaid:=
 OpenClaim.holds_of_wide 3 Tryz.f3 F rfl rfl rfl rfl rfl rfl ⟨F,F,F,F,F⟩ F rfl rfl rfl rfl az Tryz.func3 az
  (of_decide_eq_true az) (by unfold Func.isWrapper;first|(rw[ab (by decide +kernel)];kernel_rfl)|(rw[aa (by decide +kernel)];exact⟨F,F⟩))
  (λc a H b _=>topReads_lifted c a H b)
theorem topReads_holds:Rows.TopReadsCardSaid:=
 Claim7.holds_tied_plain_at .later [] [.data, .data, .data, .data, .pinned] true (true, "ae51e6fd34a41511863d341000822712b3dd679d9b0cc177bae190d2ac8906c6") false
  wH (λ_ h=>by cases h) az (λ_ h=>by cases h) topReads_row_tie F ⟨F,F⟩ az F
  (λf c b a=>by
   obtain rfl : f = 3 := Option.some.inj ((show Tryz.prog.funcNamed "quadform/quadformtop.TopReads" = some 3 by kernel_rfl).symm.trans b) |>.symm;obtain rfl:c=Tryz.f3:=(Option.some.inj (Tryz.func3.symm.trans a)).symm;exact⟨az,λj t a=>by
    rw[Tryz.params3]at a;have b:t∈([24]:List Nat):=by simpa using Array.mem_of_getElem? a
    have a:(([24]:List Nat).all λu=>!Tryz.prog.wantsStandIn u)=true:=az;exact(show Tryz.prog.wantsStandIn t=false by simpa using List.all_eq_true.1 a t b)⟩)
  az
end Go.Proofs.YtmfndnlifgphjaaGreatDoor
