/- Facts on the program's types (closed). -/
import Derived.Test.YtimjiaabaanbeaaApp
import Derived.Test.YtimjiaabaanbeaaProg
namespace Go.Proofs.Ytimjiaabaanbeaa
open Go Go.Eng Go.Proofs
theorem one_all : ([3, 2, 4, 5, 98, 54, 87, 88, 33, 53, 22, 23, 66, 43, 51, 78] : List Nat).all (oneTy Try.prog) = true := by kernel_rfl
theorem one_of {t : Nat} (h : ([3, 2, 4, 5, 98, 54, 87, 88, 33, 53, 22, 23, 66, 43, 51, 78] : List Nat).contains t = true) : oneTy Try.prog t = true :=
  List.all_eq_true.1 one_all t (by simpa using h)
theorem agg_Int : aggTy Try.prog 35 2 = true := by kernel_rfl
theorem agg_Grid : aggTy Try.prog 25 3 = true := by kernel_rfl
theorem agg_Tape : aggTy Try.prog 80 2 = true := by kernel_rfl
theorem sl_u32 : SliceTy Try.prog 33 54 1 4 (.int .u32 0) := ⟨Try.underlying33, by kernel_rfl⟩
theorem sl_int : SliceTy Try.prog 51 3 1 8 (.int .i64 0) := ⟨Try.underlying51, by kernel_rfl⟩
theorem sl_i64 : SliceTy Try.prog 66 2 1 8 (.int .i64 0) := ⟨Try.underlying66, by kernel_rfl⟩
theorem sl_i8 : SliceTy Try.prog 23 98 1 1 (.int .i8 0) := ⟨Try.underlying23, by kernel_rfl⟩
theorem sl_Int : SliceTy Try.prog 53 35 2 32 (.agg #[.bool false, .slice none 0 0]) := ⟨Try.underlying53, by kernel_rfl⟩
theorem sl_sInt : SliceTy Try.prog 22 53 1 24 (.slice none 0 0) := ⟨Try.underlying22, by kernel_rfl⟩
theorem sl_si64 : SliceTy Try.prog 43 66 1 24 (.slice none 0 0) := ⟨Try.underlying43, by kernel_rfl⟩
theorem z_Int : ZeroTy Try.prog 35 (.agg #[.bool false, .slice none 0 0]) := by unfold ZeroTy; kernel_rfl
theorem z_int : ZeroTy Try.prog 3 (.int .i64 0) := by unfold ZeroTy; kernel_rfl
theorem ty_u32 : TyD Try.prog 54 (.int .u32) := by unfold TyD; exact Try.underlying54
theorem ty_u64 : TyD Try.prog 87 (.int .u64) := by unfold TyD; exact Try.underlying87
theorem ty_int : TyD Try.prog 3 (.int .i64) := by unfold TyD; exact Try.underlying3
theorem ty_i64 : TyD Try.prog 2 (.int .i64) := by unfold TyD; exact Try.underlying2
theorem ty_u8 : TyD Try.prog 5 (.int .u8) := by unfold TyD; exact Try.underlying5
theorem ty_i8 : TyD Try.prog 98 (.int .i8) := by unfold TyD; exact Try.underlying98
theorem ty_str : TyD Try.prog 9 .string := by unfold TyD; exact Try.underlying9
theorem ty_bool : BoolTy Try.prog 4 := boolTy_of (by unfold TyD; exact Try.underlying4)
theorem R1_nilCheck {P : Program} {n : Nat} {S : World → World → Prop} {k : Nat} {K : Fr → World → Prop} {f : Fr} {w : World} {d ty : Nat} {x : Operand} {pos : String} {aft : Array Edge} {gd : Option (Nat × Bool)} {a : Addr} (hx : ev n f x = .pointer (some a)) (h : K (upd f d (.pointer (some a))) w) :
    R1 P n S k ⟨some d, .nilCheck x, ty, pos, aft, gd⟩ K f w :=
  R1_pure (v := .pointer (some a)) (fun _ => by simp [execOp, hx]) h
theorem fa_Tape0 : FieldA Try.prog 80 0 0 := by
  unfold FieldA
  intro a w
  simp [Instr.fieldAt, run_underlying Try.underlying80, Instr.sureAddr, fieldPlace, size_one (one_of (t := 23) rfl)]
theorem fa_Tape1 : FieldA Try.prog 80 1 1 := by
  unfold FieldA
  intro a w
  simp [Instr.fieldAt, run_underlying Try.underlying80, Instr.sureAddr, fieldPlace, size_one (one_of (t := 3) rfl)]
theorem fa_Grid0 : FieldA Try.prog 25 0 0 := by
  unfold FieldA
  intro a w
  simp [Instr.fieldAt, run_underlying Try.underlying25, Instr.sureAddr, fieldPlace, size_one (one_of (t := 5) rfl)]
theorem fa_Grid1 : FieldA Try.prog 25 1 1 := by
  unfold FieldA
  intro a w
  simp [Instr.fieldAt, run_underlying Try.underlying25, Instr.sureAddr, fieldPlace, size_one (one_of (t := 5) rfl)]
theorem fa_Grid2 : FieldA Try.prog 25 2 2 := by
  unfold FieldA
  intro a w
  simp [Instr.fieldAt, run_underlying Try.underlying25, Instr.sureAddr, fieldPlace, size_one (one_of (t := 23) rfl)]
theorem zero_Tape (w : World) : (zeroValue 80).run Try.prog w = .ok (.agg #[.slice none 0 0, .int .i64 0]) w := by kernel_rfl
theorem R1_bldTape {n : Nat} {S : World → World → Prop} {k : Nat} {K : Fr → World → Prop} {f : Fr} {w : World} {d ty : Nat} {x : Operand} {pos : String} {aft : Array Edge} {gd : Option (Nat × Bool)} {A : Option Addr} {m c : Nat} (hx : ev n f x = .slice A m c) (h : K (upd f d (.agg #[.slice A m c, .int .i64 ((0 : Nat) : Int)])) w) :
    R1 Try.prog n S k ⟨some d, .build 80 #[(0, x)], ty, pos, aft, gd⟩ K f w := by
  refine R1_pure (v := .agg #[.slice A m c, .int .i64 ((0 : Nat) : Int)]) (fun w => ?_) h
  have e : (#[(0, x)] : Array (Nat × Operand)).map (fun (i, x) => (i, ev n f x)) = #[(0, .slice A m c)] := by simp [hx]
  have hz : (Value.agg #[.slice none 0 0, .int .i64 0]).cells = #[.slice none 0 0, .int .i64 0] := rfl
  have ho : (Value.slice A m c).cells = #[.slice A m c] := rfl
  simp [execOp, e, Instr.build, run_underlying Try.underlying80, Instr.fill, hz, ho, size_one (one_of (t := 23) rfl), size_one (one_of (t := 3) rfl)]
/-- an Int's magnitude, by value -/
theorem R1_magV {n : Nat} {S : World → World → Prop} {k : Nat} {K : Fr → World → Prop} {f : Fr} {w : World} {d ty : Nat} {x : Operand} {pos : String} {aft : Array Edge} {gd : Option (Nat × Bool)} {u v : Value} (hx : ev n f x = .agg #[u, v]) (h : K (upd f d v) w) :
    R1 Try.prog n S k ⟨some d, .field 35 x 1, ty, pos, aft, gd⟩ K f w := by
  refine R1_pure (v := v) (fun w => ?_) h
  simp [execOp, hx, Instr.field, run_underlying Try.underlying35, asAgg, part, run_isAgg_one (one_of (t := 33) rfl)]
theorem fa_Int0 : FieldA Try.prog 35 0 0 := by
  unfold FieldA
  intro a w
  simp [Instr.fieldAt, run_underlying Try.underlying35, Instr.sureAddr, fieldPlace, size_one (one_of (t := 4) rfl)]
theorem fa_Int1 : FieldA Try.prog 35 1 1 := by
  unfold FieldA
  intro a w
  simp [Instr.fieldAt, run_underlying Try.underlying35, Instr.sureAddr, fieldPlace, size_one (one_of (t := 33) rfl)]
theorem zero_Int (w : World) : (zeroValue 35).run Try.prog w = .ok (.agg #[.bool false, .slice none 0 0]) w := by kernel_rfl
theorem b0_Int : Build0 Try.prog 35 (.agg #[.bool false, .slice none 0 0]) := by
  unfold Build0
  intro w
  simp [Instr.build, run_underlying Try.underlying35, Instr.fill, Value.cells, size_one (one_of (t := 4) rfl), size_one (one_of (t := 33) rfl)]
theorem b2_Int : Build2 Try.prog 35 := by
  unfold Build2
  intro v0 v1 w o0 o1
  have hz : (Value.agg #[.bool false, .slice none 0 0]).cells = #[.bool false, .slice none 0 0] := rfl
  simp [Instr.build, run_underlying Try.underlying35, Instr.fill, hz, size_one (one_of (t := 4) rfl), size_one (one_of (t := 33) rfl), oneCell_cells o0, oneCell_cells o1]
/-- plain operations, as many as there are: the steps of the walk that need no thought -/
structure Gw (p : Prop) : Prop where
  out : p
theorem gg {G G' : Prop} (h : G') (t : Gw G' → G := by intro hgg; (repeat (first | (refine R1_isR1 ?_; (first | refine R1_moveT rfl ?_ | refine R1_assignT rfl ?_ | refine R1_moveCi ?_ | refine R1_assignCi ?_ | refine R1_moveC ?_ | refine R1_assignC ?_ | (refine R1_isBin ?_; (first | refine R1_lss_i64_c rfl ?_ | refine R1_lss_i64 rfl rfl ?_ | refine R1_add_i64_c rfl (by omega) ?_ | refine R1_add_i64 rfl rfl (by omega) ?_ | refine R1_sub_i64_c rfl (by omega) (by omega) ?_ | refine R1_sub_i64 rfl rfl (by omega) (by omega) ?_ | refine R1_gtr_i64_c rfl ?_ | refine R1_gtr_i64 rfl rfl ?_ | refine R1_leq_i64_c rfl ?_ | refine R1_leq_i64 rfl rfl ?_ | refine R1_geq_i64_c rfl ?_ | refine R1_geq_i64 rfl rfl ?_ | refine R1_eql_i64_c rfl ?_ | refine R1_eql_i64 rfl rfl ?_ | refine R1_neq_i64_c rfl ?_ | refine R1_neq_i64 rfl rfl ?_ | refine R1_mul_i64_l rfl (by omega) ?_ | refine R1_mul_i64_c rfl (by omega) ?_ | refine R1_add_u64 rfl rfl (by omega) ?_ | refine R1_shr_u64_c rfl (by omega) ?_ | refine R1_shl_u64_c rfl (by omega) ?_ | refine R1_sub_u64_c rfl (by omega) (by omega) ?_ | refine R1_sub_i64_l rfl (by omega) (by omega) ?_ | refine R1_add_i64_l rfl (by omega) ?_ | refine R1_sub_z rfl rfl (by omega) (by omega) ?_ | refine R1_add_z rfl rfl (by omega) (by omega) ?_ | refine R1_geq_z rfl rfl ?_ | refine R1_lss_z rfl rfl ?_ | refine R1_gtr_z rfl rfl ?_ | refine R1_leq_z rfl rfl ?_ | refine R1_eql_z rfl rfl ?_ | refine R1_neq_z rfl rfl ?_ | refine R1_eql_bool ty_bool rfl rfl ?_ | refine R1_neq_bool ty_bool rfl rfl ?_ | refine R1_eql_u32_c rfl ?_ | refine R1_eql_u32 rfl rfl ?_ | refine R1_neq_u32_c rfl ?_ | refine R1_neq_u32 rfl rfl ?_ | refine R1_lss_u32 rfl rfl ?_ | refine R1_gtr_u32 rfl rfl ?_ | refine R1_eql_u64_c rfl ?_ | refine R1_eql_u64 rfl rfl ?_ | refine R1_neq_u64_c rfl ?_ | refine R1_neq_u64 rfl rfl ?_ | refine R1_lss_u64_c rfl ?_ | refine R1_lss_u64 rfl rfl ?_ | refine R1_gtr_u64_c rfl ?_ | refine R1_gtr_u64 rfl rfl ?_ | refine R1_leq_u64_c rfl ?_ | refine R1_leq_u64 rfl rfl ?_)) | (refine R1_isIndex ?_; (first | refine R1_index0B sl_sInt rfl (by omega) ?_ | refine R1_index0 sl_sInt rfl (by omega) ?_ | refine R1_index0B sl_si64 rfl (by omega) ?_ | refine R1_index0 sl_si64 rfl (by omega) ?_ | refine R1_indexB sl_u32 rfl rfl (by omega) ?_ | refine R1_indexB sl_Int rfl rfl (by omega) ?_ | refine R1_indexB sl_sInt rfl rfl (by omega) ?_ | refine R1_indexB sl_i64 rfl rfl (by omega) ?_ | refine R1_indexB sl_si64 rfl rfl (by omega) ?_ | refine R1_indexB sl_int rfl rfl (by omega) ?_ | refine R1_index sl_u32 rfl rfl (by omega) ?_ | refine R1_index sl_Int rfl rfl (by omega) ?_ | refine R1_index sl_sInt rfl rfl (by omega) ?_ | refine R1_index sl_i64 rfl rfl (by omega) ?_ | refine R1_index sl_si64 rfl rfl (by omega) ?_ | refine R1_index sl_int rfl rfl (by omega) ?_ | refine R1_index sl_i8 rfl rfl (by omega) ?_)) | (refine R1_isLoad ?_; (first | refine R1_load1F (by decide) (one_of rfl) rfl (by assumption) ?_ | refine R1_load1E (by decide) (one_of rfl) rfl (by assumption) ?_ | refine R1_load2F (by decide) agg_Int rfl (by assumption) (by assumption) ?_ | refine R1_load2E (by decide) agg_Int rfl (by assumption) (by assumption) ?_)) | (refine R1_isCall ?_; (first | refine R1_len sl_u32 rfl ?_ | refine R1_len sl_Int rfl ?_ | refine R1_len sl_sInt rfl ?_ | refine R1_len sl_i64 rfl ?_ | refine R1_len sl_si64 rfl ?_ | refine R1_len sl_int rfl ?_ | refine R1_len sl_i8 rfl ?_)) | (refine R1_isFA ?_; (first | refine R1_fieldAddr fa_Int0 rfl ?_ | refine R1_fieldAddr fa_Int1 rfl ?_ | refine R1_fieldAddr fa_Tape0 rfl ?_ | refine R1_fieldAddr fa_Tape1 rfl ?_ | refine R1_fieldAddr fa_Grid0 rfl ?_ | refine R1_fieldAddr fa_Grid1 rfl ?_ | refine R1_fieldAddr fa_Grid2 rfl ?_)) | refine R1_nilCheck rfl ?_ | (refine R1_isConv ?_; (first | refine R1_u32_u64 ty_u32 ty_u64 rfl (by omega) ?_ | refine R1_u64_u32 ty_u64 ty_u32 rfl ?_ | refine R1_u8_i64 ty_u8 ty_int rfl (by omega) ?_)) | refine R1_extract rfl rfl ?_ | refine R1_pickT rfl rfl ?_ | refine R1_pickF rfl rfl ?_ | refine R1_pickTC rfl ?_ | refine R1_pickFC rfl ?_ | refine R1_pickTD rfl (by omega) rfl ?_ | refine R1_pickFD rfl (by omega) rfl ?_ | refine R1_pickTCD rfl (by omega) ?_ | refine R1_pickFCD rfl (by omega) ?_ | refine R1_not rfl ?_ | refine R1_sliceH sl_u32 rfl rfl (by omega) ?_)) | (refine isRl ?_; (first | refine Rl_head rfl ?_ | refine Rl_nil ?_ | refine Rl_yes rfl rfl rfl rfl ?_ | refine Rl_no rfl rfl rfl rfl rfl ?_ | refine Rl_yesT rfl rfl rfl rfl (by omega) ?_ | refine Rl_noT rfl rfl rfl rfl (by omega) ?_ | refine Rl_yesF rfl rfl rfl rfl (by omega) ?_ | refine Rl_noF rfl rfl rfl rfl (by omega) ?_)) | (refine isRo ?_; (first | refine Ro_headL rfl rfl ?_ | refine Ro_nil ?_ | refine Ro_yesL rfl rfl rfl rfl rfl ?_ | refine Ro_noL rfl rfl rfl rfl rfl rfl ?_ | refine Ro_yesT rfl rfl rfl rfl rfl (by omega) ?_ | refine Ro_noT rfl rfl rfl rfl rfl (by omega) ?_ | refine Ro_yesF rfl rfl rfl rfl rfl (by omega) ?_ | refine Ro_noF rfl rfl rfl rfl rfl (by omega) ?_)) | (refine isW ?_; (first | refine W_seqR ?_ | refine W_seqB1 ?_ | refine W_seqB2 ?_ | refine W_seqB3 ?_ | refine W_reg ?_ | refine W_block ?_ | refine W_skip ?_ | refine W_exit ?_ | refine W_ret ?_ | refine W_testT rfl (by omega) ?_ | refine W_testF rfl (by omega) ?_ | refine W_decT rfl (by omega) ?_ | refine W_decF rfl (by omega) ?_ | refine W_true rfl ?_ | refine W_false rfl ?_)) | refine T_normal ?_ | refine T_exit ?_ | refine T_ret ?_ | refine B_normal ?_ | refine B_ret ?_ | refine B_same ?_ | refine B_other rfl ?_)); exact hgg.out) : G := t ⟨h⟩
theorem mixed : Try.prog.follows .mixedOrders = true := by kernel_rfl
end Go.Proofs.Ytimjiaabaanbeaa
