/- The law TopSolves: a system of integer equations has a whole solution exactly if the right side lies in the lattice of the columns. -/
import Derived.Test.YtmfndnlifgphjaaGreatQzK
import Derived.Carry
set_option maxHeartbeats 64000000
namespace Go.Proofs.YtmfndnlifgphjaaGreat
open Go Go.cU Go.ChangeShapes Go.WideShapes Go.ChangeAt Go.RowKit Go.Proofs.Qq
set_option maxRecDepth 100000 in
theorem topSolves_lifted(e:Os)(b:e.Started)(H:Type)(enc:TypeId×Value->H):
 ReturnsInHanded {} Tryz.checked e 3 .any (Rows.topSolvesSpec.pre6 enc Tryz.prog Tryz.f3 Rows.topSolvesRow.domain false) (Rows.topSolvesSpec.post enc Tryz.prog Tryz.f3 false true false false):=by
 refine returnsInHanded_of_change_sized (C:=Tryz.checked) IP b aw Tryz.func3
  (ChangeSpec.witness6 (enc:=enc) (C:=Tryz.checked) false ⟨#[],#[.agg #[.int .u8 0,.int .u8 0,.slice none 0 0],.slice none 0 0],[]⟩ 8 aw aw aw aw) ?_
 intro W f d i q b b g _ e _;have a:∀(j:Nat) t v,Tryz.f3.params[j]?=some t->d[j]?=some v->Value.okWide Tryz.prog W .any f t v:=b;have c:(DataW.weightsEach Tryz.prog (Tryz.f3.params.toList++Rows.topSolvesSpec.plain.varTypes Tryz.prog) (i++q)).all (·<=reachBytes)=true:=e;have k:=g;obtain⟨p,q,l,s,rfl,b,b⟩:=g;have h:DataW.TrodAll enc Tryz.prog W 0 (λ_=>true) true Tryz.f3.params.toList d.toList i p:=l;rw[Tryz.params3]at h a c;obtain⟨n,m,b,b,b,b,rfl,rfl,rfl,y,x⟩:=trodAll_two h;obtain⟨rfl,rfl⟩:=trodVars_none s;obtain⟨b,b,b,b,d⟩:=zC y (FI c (j:=0) F rfl) (G8 Tryz.underlying24 (a 0 _ n F rfl));obtain⟨b,b,b⟩:=zB x (FI c (j:=1) F rfl) (ve Tryz.underlying22 (a 1 _ m F rfl));refine(sP (w:=W) d b).calls.mono λe a ⟨v,r,u,o⟩=>?_;subst o;exact⟨_,r,BD HU aw F k F rfl Tryz.underlying4 u⟩
theorem topSolves_holds:Rows.TopSolvesSaid:=
 OpenClaim.holds_of_wide 3 Tryz.f3 F rfl rfl rfl rfl rfl rfl ⟨F,F,F,F,F⟩ F rfl rfl rfl rfl aw Tryz.func3 aw
  (of_decide_eq_true aw) (by unfold Func.isWrapper;first|(rw[ae (by decide +kernel)];kernel_rfl)|(rw[aa (by decide +kernel)];exact⟨F,F⟩))
  (λc a H b _=>topSolves_lifted c a H b)
end Go.Proofs.YtmfndnlifgphjaaGreat
