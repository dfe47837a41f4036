/- Joined: Lya. -/
import Derived.Test.YtmkbpjoihdfpkaaGreatQnh
import Derived.Test.YtmkbpjoihdfpkaaGreatQe
import Derived.Test.YtmkbpjoihdfpkaaGreatQni
/- The laws LllIsReduced,LllEdges,LllDeterminant. -/
namespace Go.Proofs.YtmkbpjoihdfpkaaGreat
open Go Go.Eng Go.Num Go.Proofs
set_option maxHeartbeats 16000000 in
theorem lawLllIsReduced {v:Value} {r:Nat} {len:Nat→Nat} {M:Nat→Nat→Int} {w:World} (h:MatZ w v r len M) :
 Meets Tryz.prog 3 #[v] w (Law w):=by
 refine fn_W (n:=11) Tryz.func3 rfl rfl (by kernel_rfl) (by simp) ?_
 refine gh ?_
 refine R1_call2 (isReduced_ok v r len M w h) ?_
 rintro _ w1 ⟨hE1,b,rfl,hb⟩
 refine gh ?_
 refine R1_call2 (rIsReduced_ok v r len M w1 (h.ext hE1)) ?_
 rintro _ w2 ⟨hE2,b',rfl,hb'⟩
 obtain rfl:b = b':=by rw [Bool.eq_iff_iff,hb,hb']
 have hbb:(b == b) = true:=by cases b <;> rfl
 refine gh ?_
 rw [hbb]
 refine gh ?_
 refine R1_call2 (awake8_ok w2) ?_
 rintro _ w3 ⟨hE3,rfl⟩
 refine gh ?_
 exact ret1 (v:=.bool _) rfl rfl ⟨hE1.trans (hE2.trans hE3),rfl⟩
end Go.Proofs.YtmkbpjoihdfpkaaGreat
