/- The reference's integers: DivMod, Quo. -/
import Derived.Test.YtimjiaabaanbeaaReff
namespace Go.Proofs.Ytimjiaabaanbeaa
open Go Go.Eng Go.Num Go.Proofs

section
variable {P : Program} {n : Nat} {S : World → World → Prop} {k : Nat} {K : Fr → World → Prop} {f : Fr} {w : World}
  {d ty t t2 : Nat} {x y : Operand} {pos : String} {aft : Array Edge} {gd : Option (Nat × Bool)}
theorem R1_callS {g : FuncId} {l : List Operand} {ats : Array TypeId} {post : Value → World → Prop} (hc : Meets P g (l.map (ev n f)).toArray w post)
    (h : ∀ v w', post v w' → S w w' ∧ K (upd f d v) w') : R1 P n S 1 ⟨some d, .call { callee := .value (.func g), args := l.toArray, argTypes := ats }, ty, pos, aft, gd⟩ K f w :=
  R1_call (.inr rfl) (by simp) hc fun v w' hp => ⟨fun _ => (h v w' hp).1, (h v w' hp).2⟩
/-- a load of two cells, where the blocks in M may change -/
theorem R1_load2M {M : Nat → Prop} {g T : Nat} {u v : Value} (h3 : k ≠ 3) (ht : aggTy P t 2 = true) (hx : ev n f x = .pointer (some ⟨g, 0, none⟩)) (hb : Blk w g T #[u, v]) (hn : ¬ M g) (h : K (upd f d (.agg #[u, v])) w) :
    R1 P n (Ch M) k ⟨some d, .load t x, ty, pos, aft, gd⟩ K f w := by
  refine R1_read h3 (v := .agg #[u, v]) (fun w' hw => ?_) h
  have hb' : Blk w' g T #[u, v] := by
    rcases hw with hw | rfl
    · exact hb.ch hw hn
    · exact hb
  obtain ⟨h0, h1⟩ := blkP hb'
  simp only [execOp, hx, Sem.run_bind, run_load_two ht h0 h1, Result.andThen_ok, Sem.run_pure]
theorem Ch_trans (M : Nat → Prop) : ∀ a b c : World, Ch M a b → Ch M b c → Ch M a c := fun _ _ _ h k => h.trans k
theorem W_seqDM {Q : Exit → Fr → World → Prop} {id : Nat} {ops : Array Oper} {c : Code} (M : Nat → Prop) (ord : List (Nat × Nat)) (hm : P.follows .mixedOrders = true)
    (hlen : (ord.length == ops.size && Region.noSelect ops && ordOk ops (hot ord) ord (Array.replicate ops.size false)) = true)
    (h : ∀ w', Ext w w' → w'.heap = w.heap → Ro P n ops (Ch M) (W P n c Q) ord f w') : W P n (.seq (.region id ops true) c) Q f w :=
  W_seq (W_draw (Ch M) (Ch_trans M) ord hm hlen (by rw [thenF_fun]; exact h _ (ch_drew w) rfl))
end

/-- what DivMod leaves -/
def RDZ (w : World) (z1 z2 : Int) (v : Value) (w' : World) : Prop :=
  if z2 = 0 then Ext w w' ∧ v = .tuple #[.agg #[.bool false, .slice none 0 0], .agg #[.bool false, .slice none 0 0], .bool false] else RD w z1 z2 v w'

theorem rdz_of {w w' : World} {z1 z2 : Int} {v : Value} (h : ¬ z2 = 0) (h' : RD w z1 z2 v w') : RDZ w z1 z2 v w' := by unfold RDZ; rw [if_neg h]; exact h'

theorem rdm (n1 n2 : Bool) (a b : Nat) (hb : 0 < b) :
    (¬ sg n1 (a % b) < 0 → sg n1 a / sg n2 b = sg (n1 != n2) (a / b) ∧ sg n1 a % sg n2 b = sg n1 (a % b)) ∧
    (sg n1 (a % b) < 0 → sg n1 a % sg n2 b = sg n1 (a % b) + sg false b ∧ (sg n2 b < 0 → sg n1 a / sg n2 b = sg (n1 != n2) (a / b) + 1) ∧ (¬ sg n2 b < 0 → sg n1 a / sg n2 b = sg (n1 != n2) (a / b) - 1)) := by
  have hdm := Nat.div_add_mod a b
  have hlt := Nat.mod_lt a hb
  cases n1
  · have h := dm_pos n2 a b hb
    refine ⟨fun _ => ?_, fun h0 => absurd h0 (by simp [sg]; omega)⟩
    simp only [sg_false, Bool.false_bne]
    exact h
  · refine ⟨fun h0 => ?_, fun h0 => ?_⟩
    · have hr : a % b = 0 := by simp [sg] at h0; omega
      have h := dm_neg n2 a b (a / b) 0 hb hb (by rw [Nat.mul_comm]; omega)
      rw [sg_true, hr, sg_true, Bool.true_bne]
      exact h
    · have hr : 0 < a % b := by simp [sg] at h0; omega
      have h := dm_neg n2 a b (a / b + 1) (b - a % b) hb (by omega) (by rw [Nat.add_mul, Nat.one_mul, Nat.mul_comm]; omega)
      rw [sg_true, Bool.true_bne, h.1, h.2]
      refine ⟨?_, fun h2 => ?_, fun h2 => ?_⟩
      · rw [sg_true, sg_false]; omega
      · cases n2
        · simp [sg] at h2; omega
        · simp [sg]
      · cases n2
        · simp [sg]; omega
        · simp [sg] at h2; omega

set_option maxHeartbeats 16000000 in
theorem rdivMod_ok (x1 y1 x2 y2 : Value) (z1 z2 : Int) (N : Nat) (w : World) (h1 : IV w N x1 y1 z1) (h2 : IV w N x2 y2 z2) (hN : N < 68719476736) :
    Meets Try.prog 106 #[.agg #[x1, y1], .agg #[x2, y2]] w (RDZ w z1 z2) := by
  have i2 := h2
  obtain ⟨g1, A1, l1, c1, rfl, rfl, hc1, hd1, hM1, hl1, rfl⟩ := h1
  obtain ⟨g2, A2, l2, c2, rfl, rfl, hc2, hd2, hM2, hl2, rfl⟩ := h2
  refine fn_W (n := 61) Try.func106 rfl rfl (by kernel_rfl) (by simp) ?_
  refine gg ?_
  refine R1_box (v := .agg _) (.inl rfl) rfl ?_
  intro w1 hB1 hE1 hs1
  refine gg ?_
  refine R1_box (v := .agg _) (.inl rfl) rfl ?_
  intro w2 hB2 hE2 hs2
  refine gg ?_
  refine R1_alloc (.inl rfl) z_Int ?_
  intro w3 hB3 hE3 hs3
  refine gg ?_
  refine R1_alloc (.inl rfl) z_Int ?_
  intro w4 hB4 hE4 hs4
  obtain ⟨ga, hga⟩ : ∃ g, g = w.heap.size := ⟨_, rfl⟩
  obtain ⟨gb, hgb⟩ : ∃ g, g = w1.heap.size := ⟨_, rfl⟩
  obtain ⟨gq, hgq⟩ : ∃ g, g = w2.heap.size := ⟨_, rfl⟩
  obtain ⟨gr, hgr⟩ : ∃ g, g = w3.heap.size := ⟨_, rfl⟩
  have hQ4 : Bx w4 w2.heap.size 1 true 0 := (Bx.zero true hB3).ext hE4
  have hR4 : Bx w4 w3.heap.size 1 true 0 := Bx.zero true hB4
  rw [← hgr] at hR4 ⊢
  rw [← hgq] at hQ4 ⊢
  rw [← hgb] at hB2 ⊢
  rw [← hga] at hB1 ⊢
  have hA4 := hB1.ext (hE2.trans (hE3.trans hE4))
  have hBb4 := hB2.ext (hE3.trans hE4)
  have hE04 := hE1.trans (hE2.trans (hE3.trans hE4))
  have hab : ga < gb ∧ gb < gq ∧ gq < gr ∧ w.heap.size ≤ ga := by omega
  obtain ⟨hab1, hab2, hab3, hab4⟩ := hab
  clear hB1 hB2 hB3 hB4 hE1 hE2 hE3 hE4 hs1 hs2 hs3 hs4 hgr hgq hgb hga
  refine gg ?_
  refine W_seqD [(0, 3), (1, 0), (3, 3), (4, 0), (2, 1), (5, 1), (6, 3), (7, 3)] mixed (by kernel_rfl) (fun w5 hE5 _ => ?_)
  have f1 := blk1 (hA4.ext hE5)
  have f3 := blk1 (hBb4.ext hE5)
  have hE05 := hE04.trans hE5
  refine gg ?_
  refine R1_call1 (rtrim_ok _ _ _ _ w5 (hM1.ext hE05) rfl hc1 (by omega)) ?_
  rintro _ w6 ⟨hE6, hV6⟩
  refine ⟨hE6, ?_⟩
  refine gg ?_
  refine R1_call1 (rtrim_ok _ _ _ _ w6 (hM2.ext (hE05.trans hE6)) rfl hc2 (by omega)) ?_
  rintro _ w7 ⟨hE7, hV7⟩
  refine ⟨hE7, ?_⟩
  obtain ⟨T1, t1, d1, rfl, _, _, hT1, ht1, hv1⟩ := hV6.ext hE7
  obtain ⟨T2, t2, d2, rfl, hd21, hd22, hT2, ht2, hv2⟩ := hV7
  have hlt1 : t1.length ≤ N := by have := len_le hM1.lim ht1 (Nat.le_of_eq hv1); omega
  have hlt2 : t2.length ≤ N := by have := len_le hM2.lim ht2 (Nat.le_of_eq hv2); omega
  have hE47 := hE5.trans (hE6.trans hE7)
  have hE07 := hE04.trans hE47
  have hA7 := hA4.ext hE47
  have hBb7 := hBb4.ext hE47
  have hQ7 := hQ4.ext hE47
  have hR7 := hR4.ext hE47
  clear hE5 hE6 hE7 hE47 hE04 hE05 hA4 hBb4 hQ4 hR4 f1 f3 hV6
  refine gg ?_
  by_cases hz : t2.length = 0
  · have hz2 : val l2 = 0 := by rw [← hv2, List.eq_nil_of_length_eq_zero hz]; rfl
    have e0 : sg g2 (val l2) = 0 := by rw [hz2]; cases g2 <;> rfl
    refine W_seq ?_
    refine gg ?_
    refine R1_bld0 b0_Int ?_
    refine gg ?_
    refine R1_bld0 b0_Int ?_
    refine gg ?_
    obtain ⟨qx, qy, hQB, hQv⟩ := hQ7
    refine R1_store2 agg_Int (.inl rfl) rfl rfl rfl rfl hQB (by simp) ?_
    intro w8 hB8 hC8 hs8
    have hk8 := kp_ch hQB hQv.1.noU hC8
    obtain ⟨rx, ry, hRB, hRv⟩ := hR7.kp hk8 hC8 (by omega)
    refine gg ?_
    refine R1_store2 agg_Int (.inl rfl) rfl rfl rfl rfl hRB (by simp) ?_
    intro w9 hB9 hC9 hs9
    refine gg ?_
    refine retCCT (v := .bool _) rfl agg_Int rfl rfl rfl (hB8.ch hC9 (by omega)) hB9 ?_
    unfold RDZ
    rw [if_pos e0]
    exact ⟨hC9.ext_of (hC8.ext_of hE07 (fun b hb => by omega)) (fun b hb => by omega), rfl⟩
  · have hpos : 0 < val t2 := by
      rcases Nat.eq_zero_or_pos (val t2) with h | h
      · exact absurd (by rw [val_zero ht2 h]; rfl) hz
      · exact h
    have hz2 : ¬ sg g2 (val l2) = 0 := fun e => by
      have := congrArg Int.natAbs e
      rw [sg_abs, ← hv2] at this
      simp at this; omega
    have key := rdm g1 g2 (val l1) (val l2) (by omega)
    refine W_seq ?_
    refine gg ?_
    refine R1_call2 (divide_ok _ _ _ _ _ _ t1 t2 w7 hT1 hT2 rfl rfl (by omega) (by omega) ht2 hpos) ?_
    rintro _ w8 ⟨hE8, q, r, rfl, hq, hr⟩
    obtain ⟨Tq, tq, dq, rfl, hdq1, hdq2, hTq, htq, hvq⟩ := hq
    obtain ⟨Tr, tr, dr, rfl, hdr1, hdr2, hTr, htr, hvr⟩ := hr
    rw [hv1, hv2] at hvq hvr
    have hlq : tq.length ≤ N := by have := len_le hM1.lim htq (by rw [hvq]; exact Nat.div_le_self _ _); omega
    have hlr : tr.length ≤ N := by have := len_le hM1.lim htr (by rw [hvr]; exact Nat.mod_le _ _); omega
    have hA8 := hA7.ext hE8
    have hBb8 := hBb7.ext hE8
    have hE08 := hE07.trans hE8
    refine gg ?_
    refine W_seqG [(0, 3), (1, 0), (2, 3), (3, 0), (4, 3), (5, 3), (7, 3), (8, 0), (9, 3)] [(6, [], []), (11, [], []), (12, [], []), (10, [], [6])] [(13, 2), (14, 2)] mixed (by kernel_rfl) (fun w9 hE9 _ => ?_)
    have f0 := blk0 (hA8.ext hE9)
    have f2 := blk0 (hBb8.ext hE9)
    refine gg ?_
    refine Rg_float [(6, []), (10, [])] [fA 11 11 35 (.agg #[.bool false, .slice none 0 0]), fA 12 12 35 (.agg #[.bool false, .slice none 0 0])] [36, 40, 11, 12] (by kernel_rfl) (fun a ha f' w' _ _ => by
      rcases List.mem_cons.1 ha with rfl | ha
      · exact flt_alloc z_Int rfl f' w'
      · rcases List.mem_singleton.1 ha with rfl
        exact flt_alloc z_Int rfl f' w') ?_
    refine Rc_cons (fun w10 hE10 => ?_)
    refine gg ?_
    refine R1_call1 (make_ok (g1 != g2) _ _ _ tq w10 (hTq.ext (hE9.trans hE10)) rfl hdq1 (by omega)) ?_
    rintro _ w11 ⟨hE11, q1, q2, rfl, hcq⟩
    refine ⟨hE11, ?_⟩
    refine gg ?_
    refine Rc_cons (fun w12 hE12 => ?_)
    refine gg ?_
    refine R1_call1 (make_ok g1 _ _ _ tr w12 (hTr.ext (hE9.trans (hE10.trans (hE11.trans hE12)))) rfl hdr1 (by omega)) ?_
    rintro _ w13 ⟨hE13, r1, r2, rfl, hcr⟩
    refine ⟨hE13, ?_⟩
    refine gg ?_
    refine Rc_nil (fun w14 hE14 bs hbs hdis => ?_)
    obtain ⟨hge11, hB11⟩ := hbs _ List.mem_cons_self
    obtain ⟨hge12, hB12⟩ := hbs _ (List.mem_cons_of_mem _ List.mem_cons_self)
    have hne : bs 11 ≠ bs 12 := hdis _ _ List.mem_cons_self (List.mem_cons_of_mem _ List.mem_cons_self) (show (11 : Nat) ≠ 12 by decide)
    have hM11 : Bx w14 (bs 11) 1 true 0 := Bx.zero true hB11
    have hM12 : Bx w14 (bs 12) 1 true 0 := Bx.zero true hB12
    have hge11 : w9.heap.size ≤ bs 11 := hge11
    have hge12 : w9.heap.size ≤ bs 12 := hge12
    show Ro _ _ _ _ _ _ (upd (upd _ 12 (.pointer (some ⟨bs 12, 0, none⟩))) 11 (.pointer (some ⟨bs 11, 0, none⟩))) _
    generalize bs 11 = g11 at *
    generalize bs 12 = g12 at *
    clear hB11 hB12 hbs hdis
    rw [hvq] at hcq
    rw [hvr] at hcr
    have bq : Bd N (sg (g1 != g2) (val l1 / val l2)) := by
      unfold Bd; rw [sg_abs]
      have a := val_lt l1 hM1.lim
      have b : B ^ l1.length ≤ B ^ N := Nat.pow_le_pow_right (by decide) hl1
      have := Nat.div_le_self (val l1) (val l2)
      omega
    have brr : Bd N (sg g1 (val l1 % val l2)) := by
      unfold Bd; rw [sg_abs]
      have a := val_lt l1 hM1.lim
      have b : B ^ l1.length ≤ B ^ N := Nat.pow_le_pow_right (by decide) hl1
      have := Nat.mod_le (val l1) (val l2)
      omega
    refine gg ?_
    refine R1_storeBx (.inl rfl) rfl rfl hM11 ((hcq.ext (hE12.trans (hE13.trans hE14))).ev true bq) ?_
    intro w15 h11 hC15 hk15 hs15
    refine gg ?_
    refine R1_storeBx (.inl rfl) rfl rfl (hM12.kp hk15 hC15 hne.symm) (((hcr.ext hE14).kp hk15).ev true brr) ?_
    intro w16 h12 hC16 hk16 hs16
    have h11 := h11.kp hk16 hC16 hne
    have hE814 := hE9.trans (hE10.trans (hE11.trans (hE12.trans (hE13.trans hE14))))
    have hw8 := hA8.lt
    have hl8 : gr < w9.heap.size := by have := (hR7.ext (hE8.trans hE9)).lt; omega
    have hA16 := ((hA8.ext hE814).ch hC15 (by omega)).ch hC16 (by omega)
    have hBb16 := ((hBb8.ext hE814).ch hC15 (by omega)).ch hC16 (by omega)
    have hQ16 := ((hQ7.ext (hE8.trans hE814)).kp hk15 hC15 (by omega)).kp hk16 hC16 (by omega)
    have hR16 := ((hR7.ext (hE8.trans hE814)).kp hk15 hC15 (by omega)).kp hk16 hC16 (by omega)
    have hw0 := (hE08.trans hE9).size
    have hE16 : Ext w w16 := hC16.ext_of (hC15.ext_of (hE08.trans hE814) (fun b hb => by omega)) (fun b hb => by omega)
    have hT2' : Mag w16 T2 t2 := ((hT2.ext (hE8.trans hE814)).kp hk15).kp hk16
    have hg11 : gr < g11 := by omega
    have hg12 : gr < g12 := by omega
    clear hE814 hw8 hl8 hA8 hBb8 hQ7 hR7 hk15 hC15 hk16 hC16 hs15 hs16 hM11 hM12 hE14 hE13 hE12 hE11 hE10 hE9 hw0 hge11 hge12 hA7 hBb7 hcq hcr hTq hTr hT2 f0 f2
    obtain ⟨sx, sy, hSB, hSv⟩ := id h12
    obtain ⟨s0, s1⟩ := blkP hSB
    refine gg ?_
    refine W_seq ?_
    refine gg ?_
    refine R1_call2 (rsign_ok _ _ _ N w16 hSv.1 (by omega)) ?_
    rintro _ w17 ⟨hE17, rfl⟩
    by_cases hneg : sg g1 (val l1 % val l2) < 0
    · have hsg : (sg g1 (val l1 % val l2)).sign < 0 := by rw [Int.sign_eq_neg_one_of_neg hneg]; decide
      obtain ⟨k1, k2, k3⟩ := key.2 hneg
      refine gg ?_
      refine W_seqD [(0, 0), (1, 3), (2, 1), (3, 1), (4, 2)] mixed (by kernel_rfl) (fun w18 hE18 _ => ?_)
      have hE1618 := hE17.trans hE18
      obtain ⟨sx, sy, hSB, hSv⟩ := h12.ext hE1618
      obtain ⟨s0, s1⟩ := blkP hSB
      refine gg ?_
      refine R1_call1 (make_ok false _ _ _ t2 w18 (hT2'.ext hE1618) rfl hd21 (by omega)) ?_
      rintro _ w19 ⟨hE19, n1, n2, rfl, hcn⟩
      refine ⟨hE19, ?_⟩
      rw [hv2] at hcn
      have bn : Bd N (sg false (val l2)) := by
        unfold Bd; rw [sg_abs]
        have a := val_lt l2 hM2.lim
        have b : B ^ l2.length ≤ B ^ N := Nat.pow_le_pow_right (by decide) hl2
        omega
      refine gg ?_
      refine R1_call1 (radd_ok _ _ _ _ _ _ N w19 (hSv.ext hE19).1 (hcn.iv bn) (by omega)) ?_
      rintro _ w20 ⟨hE20, n3, n4, rfl, hc20⟩
      refine ⟨hE20, ?_⟩
      rw [← k1] at hc20
      have b20 : Bd (N + 1) (sg g1 (val l1) % sg g2 (val l2)) := by rw [k1]; exact brr.add bn
      refine gg ?_
      refine R1_storeBx (.inl rfl) rfl rfl (h12.ext (hE1618.trans (hE19.trans hE20))) (hc20.ev true b20) ?_
      intro w21 h12' hC21 hk21 hs21
      have hEs := hE1618.trans (hE19.trans hE20)
      have hBb21 := (hBb16.ext hEs).ch hC21 (by omega)
      have hQ21 := (hQ16.ext hEs).kp hk21 hC21 (by omega)
      have hR21 := (hR16.ext hEs).kp hk21 hC21 (by omega)
      have h11' := (h11.ext hEs).kp hk21 hC21 hne
      have hE21 : Ext w w21 := hC21.ext_of (hE16.trans hEs) (fun b hb => by omega)
      clear hEs hE1618 hE20 hE19 hE18 hE17 hc20 hcn hk21 hC21 hs21 hSB hSv s0 s1 h12 h11 hQ16 hR16 hBb16 hA16 hE16
      obtain ⟨b0, b1⟩ := blkP hBb21
      refine gg ?_
      refine W_seq ?_
      refine gg ?_
      refine R1_call2 (rsign_ok _ _ _ N w21 (i2.ext hE21) (by omega)) ?_
      rintro _ w22 ⟨hE22, rfl⟩
      have hQ22 := hQ21.ext hE22
      have hR22 := hR21.ext hE22
      have h1122 := h11'.ext hE22
      have h1222 := h12'.ext hE22
      have hE022 := hE21.trans hE22
      by_cases hn2 : sg g2 (val l2) < 0
      · have hsg2 : (sg g2 (val l2)).sign < 0 := by rw [Int.sign_eq_neg_one_of_neg hn2]; decide
        refine gg ?_
        refine W_seqDM (fun b => b = gq) [(0, 0), (3, 0), (1, 1), (2, 1), (4, 1), (5, 2), (6, 3)] mixed (by kernel_rfl) (fun w23 hE23 _ => ?_)
        obtain ⟨ax, ay, hAB, hAv⟩ := h1122.ext hE23
        obtain ⟨bx, by', hBB, hBv⟩ := h1222.ext hE23
        refine gg ?_
        refine R1_load2M (by decide) agg_Int rfl hAB (by omega) ?_
        refine gg ?_
        refine R1_load2M (by decide) agg_Int rfl hBB (by omega) ?_
        refine gg ?_
        refine R1_callS (rsmall_ok 1 w23 (by decide) (by decide)) ?_
        rintro _ w24 ⟨hE24, o1, o2, rfl, hco⟩
        refine ⟨hE24.ch, ?_⟩
        refine gg ?_
        refine R1_callS (radd_ok _ _ _ _ _ _ (N + 1) w24 (hAv.ext hE24 |>.mono (Nat.le_succ N)).1 (hco.iv (Bd.mono (N := 1) (show (1 : Int).natAbs < B ^ 1 by decide) (by omega))) (by omega)) ?_
        rintro _ w25 ⟨hE25, o3, o4, rfl, hcs⟩
        refine ⟨hE25.ch, ?_⟩
        refine gg ?_
        obtain ⟨qx, qy, hQB, hQv⟩ := hQ22.ext (hE23.trans (hE24.trans hE25))
        refine R1_store2 agg_Int (.inr ⟨rfl, fun _ h => h⟩) rfl rfl hcs.one0 hcs.one1 hQB (by simp) ?_
        intro w26 hB26 hC26 hs26
        have hk26 := kp_ch hQB hQv.1.noU hC26
        obtain ⟨rx, ry, hRB, hRv⟩ := (hR22.ext (hE23.trans (hE24.trans hE25))).kp hk26 hC26 (by omega)
        refine gg ?_
        refine R1_store2 agg_Int (.inl rfl) rfl rfl hBv.1.one0 hBv.1.one1 hRB (by simp) ?_
        intro w27 hB27 hC27 hs27
        have hk27 := kp_ch hRB hRv.1.noU hC27
        refine gg ?_
        refine retCCT (v := .bool _) rfl agg_Int rfl rfl rfl (hB26.ch hC27 (by omega)) hB27 (rdz_of hz2 ⟨hC27.ext_of (hC26.ext_of (hE022.trans (hE23.trans (hE24.trans hE25))) (fun b hb => by omega)) (fun b hb => by omega), _, _, _, _, rfl, ?_, ?_⟩)
        · rw [k2 hn2]; exact (hcs.kp hk26).kp hk27
        · exact (((hBv.2 rfl).ext (hE24.trans hE25)).kp hk26).kp hk27
      · have hsg2 : ¬ (sg g2 (val l2)).sign < 0 := by
          rcases Int.lt_trichotomy (sg g2 (val l2)) 0 with h | h | h
          · exact absurd h hn2
          · exact absurd h hz2
          · rw [Int.sign_eq_one_of_pos h]; decide
        refine gg ?_
        refine W_seqDM (fun b => b = gq) [(0, 0), (3, 0), (1, 1), (2, 1), (4, 1), (5, 2), (6, 3)] mixed (by kernel_rfl) (fun w23 hE23 _ => ?_)
        obtain ⟨ax, ay, hAB, hAv⟩ := h1122.ext hE23
        obtain ⟨bx, by', hBB, hBv⟩ := h1222.ext hE23
        refine gg ?_
        refine R1_load2M (by decide) agg_Int rfl hAB (by omega) ?_
        refine gg ?_
        refine R1_load2M (by decide) agg_Int rfl hBB (by omega) ?_
        refine gg ?_
        refine R1_callS (rsmall_ok 1 w23 (by decide) (by decide)) ?_
        rintro _ w24 ⟨hE24, o1, o2, rfl, hco⟩
        refine ⟨hE24.ch, ?_⟩
        refine gg ?_
        refine R1_callS (rsub_ok _ _ _ _ _ _ (N + 1) w24 (hAv.ext hE24 |>.mono (Nat.le_succ N)).1 (hco.iv (Bd.mono (N := 1) (show (1 : Int).natAbs < B ^ 1 by decide) (by omega))) (by omega)) ?_
        rintro _ w25 ⟨hE25, o3, o4, rfl, hcs⟩
        refine ⟨hE25.ch, ?_⟩
        refine gg ?_
        obtain ⟨qx, qy, hQB, hQv⟩ := hQ22.ext (hE23.trans (hE24.trans hE25))
        refine R1_store2 agg_Int (.inr ⟨rfl, fun _ h => h⟩) rfl rfl hcs.one0 hcs.one1 hQB (by simp) ?_
        intro w26 hB26 hC26 hs26
        have hk26 := kp_ch hQB hQv.1.noU hC26
        obtain ⟨rx, ry, hRB, hRv⟩ := (hR22.ext (hE23.trans (hE24.trans hE25))).kp hk26 hC26 (by omega)
        refine gg ?_
        refine R1_store2 agg_Int (.inl rfl) rfl rfl hBv.1.one0 hBv.1.one1 hRB (by simp) ?_
        intro w27 hB27 hC27 hs27
        have hk27 := kp_ch hRB hRv.1.noU hC27
        refine gg ?_
        refine retCCT (v := .bool _) rfl agg_Int rfl rfl rfl (hB26.ch hC27 (by omega)) hB27 (rdz_of hz2 ⟨hC27.ext_of (hC26.ext_of (hE022.trans (hE23.trans (hE24.trans hE25))) (fun b hb => by omega)) (fun b hb => by omega), _, _, _, _, rfl, ?_, ?_⟩)
        · rw [k3 hn2]; exact (hcs.kp hk26).kp hk27
        · exact (((hBv.2 rfl).ext (hE24.trans hE25)).kp hk26).kp hk27
    · have hsg : ¬ (sg g1 (val l1 % val l2)).sign < 0 := by
        rcases Int.lt_trichotomy (sg g1 (val l1 % val l2)) 0 with h | h | h
        · exact absurd h hneg
        · rw [h]; decide
        · rw [Int.sign_eq_one_of_pos h]; decide
      obtain ⟨k1, k2⟩ := key.1 hneg
      refine gg ?_
      refine W_seqDM (fun b => b = gq) [(0, 0), (1, 0), (2, 1), (3, 2), (4, 3)] mixed (by kernel_rfl) (fun w23 hE23 _ => ?_)
      obtain ⟨ax, ay, hAB, hAv⟩ := h11.ext (hE17.trans hE23)
      obtain ⟨bx, by', hBB, hBv⟩ := h12.ext (hE17.trans hE23)
      refine gg ?_
      refine R1_load2M (by decide) agg_Int rfl hAB (by omega) ?_
      refine gg ?_
      refine R1_load2M (by decide) agg_Int rfl hBB (by omega) ?_
      refine gg ?_
      obtain ⟨qx, qy, hQB, hQv⟩ := hQ16.ext (hE17.trans hE23)
      refine R1_store2 agg_Int (.inr ⟨rfl, fun _ h => h⟩) rfl rfl hAv.1.one0 hAv.1.one1 hQB (by simp) ?_
      intro w26 hB26 hC26 hs26
      have hk26 := kp_ch hQB hQv.1.noU hC26
      obtain ⟨rx, ry, hRB, hRv⟩ := (hR16.ext (hE17.trans hE23)).kp hk26 hC26 (by omega)
      refine gg ?_
      refine R1_store2 agg_Int (.inl rfl) rfl rfl hBv.1.one0 hBv.1.one1 hRB (by simp) ?_
      intro w27 hB27 hC27 hs27
      have hk27 := kp_ch hRB hRv.1.noU hC27
      refine gg ?_
      refine retCCT (v := .bool _) rfl agg_Int rfl rfl rfl (hB26.ch hC27 (by omega)) hB27 (rdz_of hz2 ⟨hC27.ext_of (hC26.ext_of (hE16.trans (hE17.trans hE23)) (fun b hb => by omega)) (fun b hb => by omega), _, _, _, _, rfl, ?_, ?_⟩)
      · rw [k1]; exact ((hAv.2 rfl).kp hk26).kp hk27
      · rw [k2]; exact ((hBv.2 rfl).kp hk26).kp hk27

set_option maxHeartbeats 8000000 in
theorem rquo_ok (x1 y1 x2 y2 : Value) (z1 z2 : Int) (N : Nat) (w : World) (h1 : IV w N x1 y1 z1) (h2 : IV w N x2 y2 z2) (hN : N < 68719476736) :
    Meets Try.prog 90 #[.agg #[x1, y1], .agg #[x2, y2]] w (RI w (z1 / z2)) := by
  refine fn_W (n := 16) Try.func90 rfl rfl (by kernel_rfl) (by simp) ?_
  refine gg ?_
  refine R1_box (v := .agg _) (.inl rfl) rfl ?_
  intro w1 hB1 hE1 hs1
  refine gg ?_
  refine R1_box (v := .agg _) (.inl rfl) rfl ?_
  intro w2 hB2 hE2 hs2
  refine gg ?_
  refine R1_alloc (.inl rfl) z_Int ?_
  intro w3 hB3 hE3 hs3
  have hR3 : Bx w3 w2.heap.size 1 true 0 := Bx.zero true hB3
  obtain ⟨gR, hgR⟩ : ∃ g, g = w2.heap.size := ⟨_, rfl⟩
  rw [← hgR] at hR3 ⊢
  have hE13 := hE1.trans (hE2.trans hE3)
  obtain ⟨f0, f1⟩ := blkP (hB1.ext (hE2.trans hE3))
  obtain ⟨f2, f3⟩ := blkP (hB2.ext hE3)
  refine gg ?_
  refine R1_call2 (rdivMod_ok _ _ _ _ _ _ N w3 (h1.ext hE13) (h2.ext hE13) hN) ?_
  intro v w4 hv
  obtain ⟨hE4, qx, qy, rx, ry, b, rfl, hq, hr⟩ : Ext w3 w4 ∧ ∃ qx qy rx ry b, v = .tuple #[.agg #[qx, qy], .agg #[rx, ry], .bool b] ∧ CV w4 qx qy (z1 / z2) ∧ ∃ zr, CV w4 rx ry zr ∧ Bd N zr := by
    unfold RDZ at hv
    split at hv
    · rename_i h0
      obtain ⟨hE, rfl⟩ := hv
      exact ⟨hE, _, _, _, _, _, rfl, by rw [h0, Int.ediv_zero]; exact CV.zero _, 0, CV.zero _, Bd.zero _⟩
    · rename_i h0
      obtain ⟨hE, qx, qy, rx, ry, rfl, hq, hr⟩ := hv
      refine ⟨hE, qx, qy, rx, ry, true, rfl, hq, _, hr, ?_⟩
      have a := Int.emod_nonneg z1 h0
      have b := Int.emod_lt z1 h0
      have c : z2.natAbs < B ^ N := IV.bd h2
      unfold Bd
      omega
  obtain ⟨zr, hr, hzr⟩ := hr
  refine gg ?_
  refine R1_alloc (.inl rfl) z_Int ?_
  intro w5 hB5 hE5 hs5
  refine gg ?_
  refine R1_alloc (.inl rfl) z_Int ?_
  intro w6 hB6 hE6 hs6
  have h5 : Bx w6 w4.heap.size 1 true 0 := (Bx.zero true hB5).ext hE6
  have h6 : Bx w6 w5.heap.size 1 true 0 := Bx.zero true hB6
  refine gg ?_
  refine R1_storeBx (.inl rfl) rfl rfl h5 ((hq.ext (hE5.trans hE6)).ev true (Bd.ediv (IV.bd h1))) ?_
  intro w7 h7 hC7 hk7 hs7
  refine gg ?_
  refine R1_storeBx (.inl rfl) rfl rfl (h6.kp hk7 hC7 (by omega)) (((hr.ext (hE5.trans hE6)).kp hk7).ev true hzr) ?_
  intro w8 h8 hC8 hk8 hs8
  obtain ⟨ax, ay, hAB, hAv⟩ := h7.kp hk8 hC8 (by omega)
  obtain ⟨a0, a1⟩ := blkP hAB
  have hR8 := ((hR3.ext (hE4.trans (hE5.trans hE6))).kp hk7 hC7 (by have := hR3.lt; have := hE4.size; omega)).kp hk8 hC8 (by have := hR3.lt; have := hE4.size; omega)
  have hw4 := (hE13.trans hE4).size
  have hE08 : Ext w w8 := hC8.ext_of (hC7.ext_of (hE13.trans (hE4.trans (hE5.trans hE6))) (fun b hb => by omega)) (fun b hb => by omega)
  refine gg ?_
  refine R1_storeBx (.inl rfl) rfl rfl hR8 hAv ?_
  intro w9 h9 hC9 hk9 hs9
  refine gg ?_
  obtain ⟨x, y, hB, hv⟩ := h9
  exact retC rfl agg_Int rfl hB ⟨hC9.ext_of hE08 (fun b hb => by have := (hE1.trans hE2).size; omega), x, y, rfl, hv.2 rfl⟩
end Go.Proofs.Ytimjiaabaanbeaa
