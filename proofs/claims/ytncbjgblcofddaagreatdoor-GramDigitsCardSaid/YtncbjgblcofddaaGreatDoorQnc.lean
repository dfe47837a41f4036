/- Joined: Lle, Llf, Llg. -/
import Derived.Test.YtncbjgblcofddaaGreatDoorQzc
import Derived.Test.YtncbjgblcofddaaGreatDoorQr
import Derived.Test.YtncbjgblcofddaaGreatDoorQna
import Derived.Test.YtncbjgblcofddaaGreatDoorQnb
/- lll: nearest,combine; planes in memory; unbalanced. -/
namespace Go.Proofs.YtncbjgblcofddaaGreatDoor
open Go Go.Eng Go.Num Go.Proofs
def RowT (T:Nat) (w:World) (g c:Nat) (bn:Nat→Nat) (M:Nat→Int):Prop :=
 ∃ h,Blk w g T (arr (c * 2) h)∧∀ j,j < c→EV w (bn j) true (h (j * 2)) (h (j * 2 + 1)) (M j)
section
variable {T:Nat} {w w':World} {g c:Nat} {bn bn':Nat→Nat} {M M':Nat→Int}
theorem RowT.congr (h:RowT T w g c bn M) (e:∀ j,j < c→bn j≤bn' j∧M j = M' j):RowT T w g c bn' M':=by
 obtain ⟨hh,hB,hc⟩:=h
 exact ⟨hh,hB,fun j hj=>by rw [← (e j hj).2]; exact (hc j hj).mono (e j hj).1⟩
theorem RowT.at {j:Nat} (h:RowT T w g c bn M) (hj:j < c) :
 ∃ x y,w.cell? ⟨g,0 + j * 2,none⟩ = some x∧w.cell? ((⟨g,0 + j * 2,none⟩ : Addr).add 1) = some y∧EV w (bn j) true x y (M j):=by
 obtain ⟨hh,hB,hc⟩:=h
 refine ⟨hh (j * 2),hh (j * 2 + 1),?_,?_,hc j hj⟩
 · rw [hB.cell,Nat.zero_add,arr_at (by omega)]
 · rw [add_lit,hB.cell,Nat.zero_add,arr_at (by omega)]
end
end Go.Proofs.YtncbjgblcofddaaGreatDoor
namespace Go.Proofs.YtncbjgblcofddaaGreatDoor
open Go Go.Eng Go.Num Go.Proofs
theorem cmpI_le {a b:Int}:cmpI a b≤0 ↔ a≤b:=by
 unfold cmpI
 constructor
 · intro h
   by_cases h1:a < b
   · omega
   · rw [if_neg h1] at h
     by_cases h2:b < a
     · rw [if_pos h2] at h; omega
     · omega
 · intro h
   by_cases h1:a < b
   · rw [if_pos h1]; decide
   · rw [if_neg h1,if_neg (by omega)]; decide
theorem gh {G G':Prop} (h:G') (t:Gw G'→G:=by intro hgg; (repeat (first | (first | (refine R1_isR1 ?_; (first | refine R1_moveT rfl ?_ | refine R1_assignT rfl ?_ | refine R1_moveCi ?_ | refine R1_assignCi ?_ | refine R1_moveC ?_ | refine R1_assignC ?_ | (refine R1_isBin ?_; (first | refine R1_lss_i64_c rfl ?_ | refine R1_lss_i64 rfl rfl ?_ | refine R1_add_i64_c rfl (by omega) ?_ | refine R1_add_i64 rfl rfl (by omega) ?_ | refine R1_sub_i64_c rfl (by omega) (by omega) ?_ | refine R1_sub_i64 rfl rfl (by omega) (by omega) ?_ | refine R1_gtr_i64_c rfl ?_ | refine R1_gtr_i64 rfl rfl ?_ | refine R1_leq_i64_c rfl ?_ | refine R1_leq_i64 rfl rfl ?_ | refine R1_geq_i64_c rfl ?_ | refine R1_geq_i64 rfl rfl ?_ | refine R1_eql_i64_c rfl ?_ | refine R1_eql_i64 rfl rfl ?_ | refine R1_neq_i64_c rfl ?_ | refine R1_neq_i64 rfl rfl ?_ | refine R1_mul_i64_l rfl (by omega) ?_ | refine R1_mul_i64_c rfl (by omega) ?_ | refine R1_add_u64 rfl rfl (by omega) ?_ | refine R1_shr_u64_c rfl (by omega) ?_ | refine R1_shl_u64_c rfl (by omega) ?_ | refine R1_sub_u64_c rfl (by omega) (by omega) ?_ | refine R1_sub_i64_l rfl (by omega) (by omega) ?_ | refine R1_add_i64_l rfl (by omega) ?_ | refine R1_sub_z rfl rfl (by omega) (by omega) ?_ | refine R1_add_z rfl rfl (by omega) (by omega) ?_ | refine R1_geq_z rfl rfl ?_ | refine R1_lss_z rfl rfl ?_ | refine R1_gtr_z rfl rfl ?_ | refine R1_leq_z rfl rfl ?_ | refine R1_eql_z rfl rfl ?_ | refine R1_neq_z rfl rfl ?_ | refine R1_eql_bool ty_bool rfl rfl ?_ | refine R1_neq_bool ty_bool rfl rfl ?_ | refine R1_eql_u32_c rfl ?_ | refine R1_eql_u32 rfl rfl ?_ | refine R1_neq_u32_c rfl ?_ | refine R1_neq_u32 rfl rfl ?_ | refine R1_lss_u32 rfl rfl ?_ | refine R1_gtr_u32 rfl rfl ?_ | refine R1_eql_u64_c rfl ?_ | refine R1_eql_u64 rfl rfl ?_ | refine R1_neq_u64_c rfl ?_ | refine R1_neq_u64 rfl rfl ?_ | refine R1_lss_u64_c rfl ?_ | refine R1_lss_u64 rfl rfl ?_ | refine R1_gtr_u64_c rfl ?_ | refine R1_gtr_u64 rfl rfl ?_ | refine R1_leq_u64_c rfl ?_ | refine R1_leq_u64 rfl rfl ?_)) | (refine R1_isIndex ?_; (first | refine R1_index0B sl_sInt rfl (by omega) ?_ | refine R1_index0 sl_sInt rfl (by omega) ?_ | refine R1_index0B sl_si64 rfl (by omega) ?_ | refine R1_index0 sl_si64 rfl (by omega) ?_ | refine R1_indexB sl_u32 rfl rfl (by omega) ?_ | refine R1_indexB sl_Int rfl rfl (by omega) ?_ | refine R1_indexB sl_sInt rfl rfl (by omega) ?_ | refine R1_indexB sl_i64 rfl rfl (by omega) ?_ | refine R1_indexB sl_si64 rfl rfl (by omega) ?_ | refine R1_indexB sl_int rfl rfl (by omega) ?_ | refine R1_index sl_u32 rfl rfl (by omega) ?_ | refine R1_index sl_Int rfl rfl (by omega) ?_ | refine R1_index sl_sInt rfl rfl (by omega) ?_ | refine R1_index sl_i64 rfl rfl (by omega) ?_ | refine R1_index sl_si64 rfl rfl (by omega) ?_ | refine R1_index sl_int rfl rfl (by omega) ?_ | refine R1_index sl_i8 rfl rfl (by omega) ?_)) | (refine R1_isLoad ?_; (first | refine R1_load1F (by decide) (one_of rfl) rfl (by assumption) ?_ | refine R1_load1E (by decide) (one_of rfl) rfl (by assumption) ?_ | refine R1_load2F (by decide) agg_Int rfl (by assumption) (by assumption) ?_ | refine R1_load2E (by decide) agg_Int rfl (by assumption) (by assumption) ?_)) | (refine R1_isCall ?_; (first | refine R1_len sl_u32 rfl ?_ | refine R1_len sl_Int rfl ?_ | refine R1_len sl_sInt rfl ?_ | refine R1_len sl_i64 rfl ?_ | refine R1_len sl_si64 rfl ?_ | refine R1_len sl_int rfl ?_ | refine R1_len sl_i8 rfl ?_)) | (refine R1_isFA ?_; (first | refine R1_fieldAddr fa_Int0 rfl ?_ | refine R1_fieldAddr fa_Int1 rfl ?_ | refine R1_fieldAddr fa_Tape0 rfl ?_ | refine R1_fieldAddr fa_Tape1 rfl ?_ | refine R1_fieldAddr fa_Grid0 rfl ?_ | refine R1_fieldAddr fa_Grid1 rfl ?_ | refine R1_fieldAddr fa_Grid2 rfl ?_)) | refine R1_nilCheck rfl ?_ | (refine R1_isConv ?_; (first | refine R1_u32_u64 ty_u32 ty_u64 rfl (by omega) ?_ | refine R1_u64_u32 ty_u64 ty_u32 rfl ?_ | refine R1_u8_i64 ty_u8 ty_int rfl (by omega) ?_)) | refine R1_extract rfl rfl ?_ | refine R1_pickT rfl rfl ?_ | refine R1_pickF rfl rfl ?_ | refine R1_pickTC rfl ?_ | refine R1_pickFC rfl ?_ | refine R1_pickTD rfl (by omega) rfl ?_ | refine R1_pickFD rfl (by omega) rfl ?_ | refine R1_pickTCD rfl (by omega) ?_ | refine R1_pickFCD rfl (by omega) ?_ | refine R1_not rfl ?_ | refine R1_sliceH sl_u32 rfl rfl (by omega) ?_)) | (refine isRl ?_; (first | refine Rl_head rfl ?_ | refine Rl_nil ?_ | refine Rl_yes rfl rfl rfl rfl ?_ | refine Rl_no rfl rfl rfl rfl rfl ?_ | refine Rl_yesT rfl rfl rfl rfl (by omega) ?_ | refine Rl_noT rfl rfl rfl rfl (by omega) ?_ | refine Rl_yesF rfl rfl rfl rfl (by omega) ?_ | refine Rl_noF rfl rfl rfl rfl (by omega) ?_)) | (refine isRo ?_; (first | refine Ro_headL rfl rfl ?_ | refine Ro_nil ?_ | refine Ro_yesL rfl rfl rfl rfl rfl ?_ | refine Ro_noL rfl rfl rfl rfl rfl rfl ?_ | refine Ro_yesT rfl rfl rfl rfl rfl (by omega) ?_ | refine Ro_noT rfl rfl rfl rfl rfl (by omega) ?_ | refine Ro_yesF rfl rfl rfl rfl rfl (by omega) ?_ | refine Ro_noF rfl rfl rfl rfl rfl (by omega) ?_)) | (refine isW ?_; (first | refine W_seqR ?_ | refine W_seqB1 ?_ | refine W_seqB2 ?_ | refine W_seqB3 ?_ | refine W_reg ?_ | refine W_block ?_ | refine W_skip ?_ | refine W_exit ?_ | refine W_ret ?_ | refine W_testT rfl (by omega) ?_ | refine W_testF rfl (by omega) ?_ | refine W_decT rfl (by omega) ?_ | refine W_decF rfl (by omega) ?_ | refine W_true rfl ?_ | refine W_false rfl ?_)) | refine T_normal ?_ | refine T_exit ?_ | refine T_ret ?_ | refine B_normal ?_ | refine B_ret ?_ | refine B_same ?_ | refine B_other rfl ?_) | (refine R1_isR1 ?_; (first | refine R1_load1N (by decide) (one_of rfl) rfl (by assumption) ?_ | refine R1_load2N (by decide) agg_Int rfl (by assumption) (by assumption) ?_)))); exact hgg.out):G:=t ⟨h⟩
end Go.Proofs.YtncbjgblcofddaaGreatDoor
