import Derived.Test.YtgnnmifpfgpllaaZAJ
import Derived.Test.YtgnnmifpfgpllaaZB3
import Derived.Test.YtgnnmifpfgpllaaZN1
import Derived.Test.YtgnnmifpfgpllaaZKit
import Derived.Test.YtgnnmifpfgpllaaZE7
import Derived.Test.YtgnnmifpfgpllaaZB4
import Derived.Test.YtgnnmifpfgpllaaZD20
import Derived.Test.YtgnnmifpfgpllaaZO6
import Derived.Test.YtgnnmifpfgpllaaZMath7
/- Proofs of ranges: checks. -/
set_option linter.all false
set_option linter.unusedVariables false
set_option linter.unusedSimpArgs false
namespace Go.Proofs.Ytgnnmifpfgpllaa
open Go.RowKit
noncomputable def c_verifyBit : Con0 := fun args => match args with
  | [a0, a1, a2, a3] => match asG a0, asBs a1, asI a2, asLLL a3 with
    | some (p, q, g), some (bh, bs), some c, some (pa, pc, pr) => some (M.Grp p q g ∧ (0 ≤ bh ∧ bh < p) ∧ (0 ≤ c ∧ c < p), .lit (.bool (bitV p q g bh c pa pc pr)), [])
    | _, _, _, _ => none
  | _ => none
set_option linter.unusedVariables false in
theorem ok_verifyBit : (mk c_verifyBit).ok Try.prog 85 := Con0.okLit (enter_of Try.func85 (by kernel_rfl) (by kernel_rfl)) fun args c x obs h => by
  unfold c_verifyBit at h
  split at h
  · split at h
    · rename_i p q g bh bs c pa pc pr e0 e1 e2 e3
      cases h
      refine ⟨rfl, _, rfl, fun hc w vs hv => ?_⟩
      obtain ⟨u0, vs, rfl, r0, h0⟩ := hv.cons_of
      obtain ⟨u1, vs, rfl, r1, h1⟩ := h0.cons_of
      obtain ⟨u2, vs, rfl, r2, h2⟩ := h1.cons_of
      obtain ⟨u3, vs, rfl, r3, h3⟩ := h2.cons_of
      rw [h3.nil_of]
      obtain rfl := asG_sound e0 r0
      obtain ⟨z1, rfl, A_bs, c_bs, rfl, hx_bs, hl_bs, hc_bs⟩ := asBs_sound e1 r1
      obtain rfl := asI_sound e2 r2
      obtain ⟨z3_0, z3_1, z3_2, rfl, y3_0, y3_1, y3_2⟩ := asLLL_sound e3 r3
      obtain ⟨A_pa, c_pa, rfl, hx_pa, hl_pa, hc_pa⟩ := y3_0
      obtain ⟨A_pc, c_pc, rfl, hx_pc, hl_pc, hc_pc⟩ := y3_1
      obtain ⟨A_pr, c_pr, rfl, hx_pr, hl_pr, hc_pr⟩ := y3_2
      exact verifyBitG_any p q g bh c A_bs bs.length c_bs hc.1 hc.2.1 hc.2.2 A_pa c_pa pa A_pc c_pc pc A_pr c_pr pr hl_pa hl_pc hl_pr _ hx_pa hx_pc hx_pr
    · cases h
  · cases h
noncomputable def c_rIsBit : Con0 := fun args => match args with
  | [a0, a1, a2, a3] => match asG a0, asBs a1, asI a2, asLLL a3 with
    | some (p, q, g), some (bh, bs), some c, some (pa, pc, pr) => some (M.Grp p q g ∧ (0 ≤ bh ∧ bh < p) ∧ (0 ≤ c ∧ c < p), .lit (.bool (bitV p q g bh c pa pc pr)), [])
    | _, _, _, _ => none
  | _ => none
set_option linter.unusedVariables false in
theorem ok_rIsBit : (mk c_rIsBit).ok Try.prog 80 := Con0.okLit (enter_of Try.func80 (by kernel_rfl) (by kernel_rfl)) fun args c x obs h => by
  unfold c_rIsBit at h
  split at h
  · split at h
    · rename_i p q g bh bs c pa pc pr e0 e1 e2 e3
      cases h
      refine ⟨rfl, _, rfl, fun hc w vs hv => ?_⟩
      obtain ⟨u0, vs, rfl, r0, h0⟩ := hv.cons_of
      obtain ⟨u1, vs, rfl, r1, h1⟩ := h0.cons_of
      obtain ⟨u2, vs, rfl, r2, h2⟩ := h1.cons_of
      obtain ⟨u3, vs, rfl, r3, h3⟩ := h2.cons_of
      rw [h3.nil_of]
      obtain rfl := asG_sound e0 r0
      obtain ⟨z1, rfl, A_bs, c_bs, rfl, hx_bs, hl_bs, hc_bs⟩ := asBs_sound e1 r1
      obtain rfl := asI_sound e2 r2
      obtain ⟨z3_0, z3_1, z3_2, rfl, y3_0, y3_1, y3_2⟩ := asLLL_sound e3 r3
      obtain ⟨A_pa, c_pa, rfl, hx_pa, hl_pa, hc_pa⟩ := y3_0
      obtain ⟨A_pc, c_pc, rfl, hx_pc, hl_pc, hc_pc⟩ := y3_1
      obtain ⟨A_pr, c_pr, rfl, hx_pr, hl_pr, hc_pr⟩ := y3_2
      exact rIsBit_any p q g bh c A_bs bs.length c_bs hc.1 hc.2.1 hc.2.2 A_pa c_pa pa A_pc c_pc pc A_pr c_pr pr hl_pa hl_pc hl_pr _ hx_pa hx_pc hx_pr
    · cases h
  · cases h
theorem l9B_useR {p q g bh : Int} {bs : List Int} (h1 : l9B p q g bh bs = true) : M.Grp p q g ∧ (0 ≤ bh ∧ bh < p) ∧ 2 ≤ q ∧ q < p ∧ 3 ≤ p ∧ p ≤ 2000000000 ∧ (0 ≤ g ∧ g < p) := by
  obtain ⟨h6, h7⟩ := l9B_of h1
  have hG := M.goodB_of h6
  have hq2 := hG.q2
  have hqp := hG.qp
  have hp3 := hG.p3
  have hpM := hG.pM
  exact ⟨hG, (by have h := (basesB_of h7).1; exact ⟨by have := h.1.1; omega, h.1.2⟩), hq2, hqp, hp3, hpM, by have := hG.g2; omega, hG.gp⟩
noncomputable def okRg (q n : Int) : Bool := inr n 1 16 && decide (1 * 2 ^ n.toNat < q)
theorem pow16 {n : Int} (h : 1 ≤ n ∧ n ≤ 16) : 0 < (2 : Int) ^ n.toNat ∧ (2 : Int) ^ n.toNat ≤ 65536 := by
  have e : ∀ m : Nat, ((2 : Int) ^ m) = ((2 ^ m : Nat) : Int) := fun m => by rw [Int.natCast_pow]; rfl
  have h1 : 2 ^ n.toNat ≤ 2 ^ 16 := Nat.pow_le_pow_right (by omega) (by omega : n.toNat ≤ 16)
  have h2 : 0 < 2 ^ n.toNat := Nat.pow_pos (by omega)
  rw [e]
  have : (2 : Nat) ^ 16 = 65536 := by decide
  omega
theorem pow_k {q : Int} {n k : Nat} (h : (2 : Int) ^ n < q) (hk : k < n) : 0 < (2 : Int) ^ k ∧ (2 : Int) ^ k < q := by
  refine ⟨?_, M.two_lt h hk⟩
  have e : ((2 : Int) ^ k) = ((2 ^ k : Nat) : Int) := by rw [Int.natCast_pow]; rfl
  have h2 : 0 < 2 ^ k := Nat.pow_pos (by omega)
  rw [e]; omega
theorem okRg_use {q n : Int} (h : okRg q n = true) : (1 ≤ n ∧ n ≤ 16) ∧ (2 : Int) ^ n.toNat < q := by
  simp only [okRg, Bool.and_eq_true, decide_eq_true_eq, Int.one_mul] at h
  exact ⟨inr_t h.1, h.2⟩
/-- the first k bits are proved -/
noncomputable def bkA (p q g bh : Int) (rb : List Int) (rp : List (List Int × List Int × List Int)) (k : Nat) : Bool := (List.range k).all fun j => bitV p q g bh (rb.getD j 0) (rp.getD j (([] : List Int), ([] : List Int), ([] : List Int))).1 (rp.getD j (([] : List Int), ([] : List Int), ([] : List Int))).2.1 (rp.getD j (([] : List Int), ([] : List Int), ([] : List Int))).2.2
section
variable {p q g bh : Int} {rb : List Int} {rp : List (List Int × List Int × List Int)} {k m : Nat}
theorem bkA_t (h : bkA p q g bh rb rp k = true) (hb : bitV p q g bh (rb.getD k 0) (rp.getD k (([] : List Int), ([] : List Int), ([] : List Int))).1 (rp.getD k (([] : List Int), ([] : List Int), ([] : List Int))).2.1 (rp.getD k (([] : List Int), ([] : List Int), ([] : List Int))).2.2 = true) : bkA p q g bh rb rp (k + 1) = true := by
  unfold bkA at *
  rw [List.range_succ, List.all_append, h]; simpa using hb
theorem bkA_f (hk : k < m) (hb : bitV p q g bh (rb.getD k 0) (rp.getD k (([] : List Int), ([] : List Int), ([] : List Int))).1 (rp.getD k (([] : List Int), ([] : List Int), ([] : List Int))).2.1 (rp.getD k (([] : List Int), ([] : List Int), ([] : List Int))).2.2 = false) : bkA p q g bh rb rp m = false := by
  unfold bkA
  rw [Bool.eq_false_iff]
  intro h
  have := List.all_eq_true.1 h k (List.mem_range.2 hk)
  rw [hb] at this; cases this
theorem bkA_0 : bkA p q g bh rb rp 0 = true := rfl
end
noncomputable def rgV (p q g bh c n : Int) (rb : List Int) (rp : List (List Int × List Int × List Int)) : Bool := ((rb.length : Int) == n) && ((rp.length : Int) == n) && elemsB p q rb && bkA p q g bh rb rp rb.length && (M.hor p rb == c)
theorem hor_at {p : Int} {rb : List Int} {k : Nat} (hk : k < rb.length) : M.mulL p [M.hor p (rb.drop (k + 1)), M.hor p (rb.drop (k + 1)), rb.getD k 0] = M.hor p (rb.drop k) := by
  rw [drop_at 0 hk]; rfl
theorem hor_z {p : Int} {rb : List Int} : M.hor p (rb.drop rb.length) = 1 := by simp [M.hor]
theorem rpI_step {p q : Int} {rb : List Int} {k : Nat} : M.mulL p [M.rpI p q rb k, M.gpw p q (rb.getD k 0) (1 * 2 ^ k)] = M.rpI p q rb (k + 1) := rfl
theorem all3 {q a b c : Int} (ha : 0 ≤ a ∧ a < q) (hb : 0 ≤ b ∧ b < q) (hc : 0 ≤ c ∧ c < q) : ∀ x ∈ [a, b, c], 0 ≤ x ∧ x < q := by
  intro x hx; simp only [List.mem_cons, List.not_mem_nil, or_false] at hx; rcases hx with rfl | rfl | rfl <;> assumption
theorem all2r {q a b : Int} (ha : 0 ≤ a ∧ a < q) (hb : 0 ≤ b ∧ b < q) : ∀ x ∈ [a, b], 0 ≤ x ∧ x < q := by
  intro x hx; simp only [List.mem_cons, List.not_mem_nil, or_false] at hx; rcases hx with rfl | rfl <;> assumption
theorem elemsB_bd' {p q : Int} {l : List Int} (h : elemsB p q l = true) : ∀ x ∈ l, 0 ≤ x ∧ x < p := fun _ hx => elem_bd (elemsB_mem h hx)
theorem elemsB_1r {p q a : Int} : elemsB p q [a] = elemB p q a := by simp [elemsB]
theorem elemB_bdr {p q a : Int} (h : elemB p q a = true) : 0 ≤ a ∧ a < p := elem_bd (elemB_t h)
noncomputable def c_isRange : Con0 := conF [(.pair .int (.pair .int .int)), .int] fun (⟨⟨p, q, g⟩, n, _⟩ : (Int × Int × Int) × Int × Unit) => (True, .lit (.bool (okRg q n)), [])
noncomputable def G_isRange : List (FuncId × Con) := [(59, mk c_within)]
theorem G_isRange_ok : ∀ f C, (f, C) ∈ G_isRange → C.ok Try.prog f := by
  intro f C h
  simp only [G_isRange, List.mem_cons, Prod.mk.injEq, List.not_mem_nil, or_false] at h
  obtain ⟨rfl, rfl⟩ := h
  exact ok_within
set_option maxRecDepth 100000 in
set_option maxHeartbeats 4000000 in
theorem ok_isRange : (mk c_isRange).ok Try.prog 46 := okF (Θ := Th) (N := 15) (rs := [.tmp 4]) Th_ok Try.func46 (by kernel_rfl) rfl Try.results46 (by decide) (by kernel_rfl) fun (⟨⟨p, q, g⟩, n, _⟩ : (Int × Int × Int) × Int × Unit) => ⟨rfl, rfl, Nat.le_of_ble_eq_true rfl, fun hc w0 => by
  have hL := dmy_eq
  try dsimp only at hc
  try dsimp only
  refine AWp.body rfl ?_
  repeat' first
    | ((with_reducible refine hK _ _ ?_); clear hK K)
    | ((with_reducible refine hK _ _ (by kernel_rfl) ?_); clear hK K)
    | ((with_reducible refine AWp.pS Th_ok G_isRange_ok [0, 1, 2, 4] (by decide) ?_); intro K hK)
    | ((with_reducible refine AWp.dS (by kernel_rfl) Th_ok G_isRange_ok [0, 1, 2, 4] ?_); intro K hK)
    | ((with_reducible refine AWp.pE Th_ok G_isRange_ok [0, 1, 2, 4] (by decide) ?_); intro K hK)
    | ((with_reducible refine AWp.dE (by kernel_rfl) Th_ok G_isRange_ok [0, 1, 2, 4] ?_); intro K hK)
    | ((first | with_reducible refine runF_id ?_ | with_reducible refine stepF_id ?_); simp (maxSteps := 2000000) only [runF, stepF, forkOf, gdOf, List.toList_toArray, stepOp, look, opAV, pureOp, callOp, memOp, AS.ev, AS.get, AS.obj, initS, initFrom, AV.cells, AS.upd, Option.bind_some, Option.bind_none, Option.map_some, Option.map_none, Option.getD_none, Option.getD_some, ↓reduceIte, Nat.reduceEqDiff, Nat.reduceAdd, Nat.reduceMul, Nat.reduceSub, List.nil_append, List.append_nil, List.cons_append, List.map_cons, List.map_nil, true_and, and_true, AS.fin, pick, dedup, List.mem_cons, List.not_mem_nil, or_false, false_or, List.size_toArray, List.length_cons, List.length_nil, loadAV, List.drop_zero, List.drop_succ_cons, List.take_zero, List.take_succ_cons, List.getElem?_cons_zero, List.getElem?_cons_succ, List.head?_cons, List.mapM_cons, List.mapM_nil, Option.bind_eq_bind, Option.pure_def, deeps3, deep3, deep2, deep1, deeps, deeps2, mixInts, AV.plain, mk, mkD, DCon.lift, DCon.runC, ren3, ren2, ren1, numb, List.zipIdx_nil, List.zipIdx_cons, List.all_nil, List.all_cons, Nat.reduceLeDiff, List.range, List.range.loop, Ty.sz, beq_self_eq_true, Bool.and_self, and_self, Ty.ofC, AO.isDead, Nat.reduceLT, if_true, Nat.zero_add, Nat.add_zero, ite_true, Nat.le_refl, Bool.false_eq_true, reduceCtorEq, if_false, ite_false, binAV, AO.ren, AV.isCell, fillAV, List.set_cons_zero, List.set_cons_succ, Ty.cells, Ty.flat, Ty.dflt, List.getD_cons_zero, List.getD_cons_succ, Int.reduceToNat, Int.reduceSub, Int.reduceAdd, Int.reduceMul, Int.reduceNeg, forall_eq_or_imp, forall_eq, gdL, id_eq, Nat.lt_irrefl, srcOf, List.replicate_succ, List.replicate_zero, dite_true, List.isEmpty_cons, Option.isSome_some, List.length_append, List.length_singleton, bne_self_eq_false, Bool.not_true, Bool.not_false, conF, asArgs, asArg, asTy, asI1, asB1, asS1, asL1, canons, canon, Fork.true_, Fork.false_, bne, Bool.not_not, List.length_map, pickO, AS.over, TI.bl, bne_iff_ne, AS.over2, without, keys, List.mem_singleton, memOp2, memOp3, absorb, abInt, abBool, abStr, abList, gones, Int.toNat_natCast, List.take_length, subE, List.nodup_cons, List.nodup_nil, not_false_eq_true, Nat.sub_self, conR, asG, asI, asBo, asStr, asIs, asBs, asE4, asI2, asI3, asLL, asLLL, Th_int, Th_implGroup, Th_string, Th_uint, G_isRange, c_within, hL])
    | ((with_reducible refine ens_step ?_ (fun hE => ?_)); · ((repeat' with_reducible apply And.intro) <;> first | with_reducible assumption | omega | exact True.intro | with_reducible rfl | (show ByteArray.size _ ≤ _; decide) | (simp; done) | (simp; omega) | rfl))
    | ((with_reducible refine And.intro ?_ ?_); · ((repeat' with_reducible apply And.intro) <;> first | with_reducible assumption | omega | exact True.intro | with_reducible rfl | (show ByteArray.size _ ≤ _; decide) | (simp; done) | (simp; omega) | rfl))
    | ((with_reducible refine Fork.intro (fun h' => ?_) (fun h' => ?_)) <;> (try simp only [Bool.not_eq_true', Bool.not_eq_false', bne] at h') <;> (replace hL := And.intro h' hL) <;> (try simp only [decide_eq_true_eq, decide_eq_false_iff_not, beq_iff_eq, beq_eq_false_iff_ne, ne_eq] at h') <;> (try (have hin := inr_t h'; have hp16 := pow16 hin)))
    | (with_reducible refine AWp.skipS ?_)
    | ((with_reducible refine AWp.condT rfl ?_))
    | ((with_reducible refine AWp.condF rfl ?_))
    | (with_reducible refine AWp.condB rfl ?_)
    | (with_reducible refine AWp.ret ?_)
    | (with_reducible refine seqQ_n ?_)
    | (with_reducible refine seqQ_ret ?_)
    | (with_reducible refine blkQ_ret ?_)
    | (with_reducible refine blkQ_n ?_)
    | (with_reducible refine seqQ_exit ?_)
    | (with_reducible refine blkQ_exit ?_)
    | (with_reducible refine blkQ_other (by decide) ?_)
    | (with_reducible refine AWp.block ?_)
    | (with_reducible refine AWp.exit ?_)
    | (with_reducible refine AWp.skip ?_)
    | ((with_reducible refine EndsAt_id ?_); (try subst_vars); (try simp only [okRg, hL, List.length_cons, List.length_nil, Nat.zero_add, Nat.reduceAdd, Bool.and_true, Bool.and_false, Bool.true_and, Bool.false_and, Bool.and_self, ↓reduceIte, Bool.false_eq_true, Bool.not_true, Bool.not_false, bne]); refine EndsAt.done [] (by first | exact .inr rfl | exact .inl rfl) rfl rfl ?_ ?_ <;> first | decide | (repeat' (first | rfl | apply And.intro | trivial)))
    | (with_reducible refine AWp.seq ?_)⟩
noncomputable def c_rBits : Con0 := conF [(.pair .int (.pair .int .int)), .int] fun (⟨⟨p, q, g⟩, n, _⟩ : (Int × Int × Int) × Int × Unit) => (True, .lit (.bool (okRg q n)), [])
noncomputable def G_rBits : List (FuncId × Con) := [(57, mk c_l1In)]
theorem G_rBits_ok : ∀ f C, (f, C) ∈ G_rBits → C.ok Try.prog f := by
  intro f C h
  simp only [G_rBits, List.mem_cons, Prod.mk.injEq, List.not_mem_nil, or_false] at h
  obtain ⟨rfl, rfl⟩ := h
  exact ok_l1In
set_option maxRecDepth 100000 in
set_option maxHeartbeats 4000000 in
theorem ok_rBits : (mk c_rBits).ok Try.prog 40 := okF (Θ := Th) (N := 15) (rs := [.tmp 4]) Th_ok Try.func40 (by kernel_rfl) rfl Try.results40 (by decide) (by kernel_rfl) fun (⟨⟨p, q, g⟩, n, _⟩ : (Int × Int × Int) × Int × Unit) => ⟨rfl, rfl, Nat.le_of_ble_eq_true rfl, fun hc w0 => by
  have hL := dmy_eq
  try dsimp only at hc
  try dsimp only
  refine AWp.body rfl ?_
  repeat' first
    | ((with_reducible refine hK _ _ ?_); clear hK K)
    | ((with_reducible refine hK _ _ (by kernel_rfl) ?_); clear hK K)
    | ((with_reducible refine AWp.pS Th_ok G_rBits_ok [0, 1, 2, 4] (by decide) ?_); intro K hK)
    | ((with_reducible refine AWp.dS (by kernel_rfl) Th_ok G_rBits_ok [0, 1, 2, 4] ?_); intro K hK)
    | ((with_reducible refine AWp.pE Th_ok G_rBits_ok [0, 1, 2, 4] (by decide) ?_); intro K hK)
    | ((with_reducible refine AWp.dE (by kernel_rfl) Th_ok G_rBits_ok [0, 1, 2, 4] ?_); intro K hK)
    | ((first | with_reducible refine runF_id ?_ | with_reducible refine stepF_id ?_); simp (maxSteps := 2000000) only [runF, stepF, forkOf, gdOf, List.toList_toArray, stepOp, look, opAV, pureOp, callOp, memOp, AS.ev, AS.get, AS.obj, initS, initFrom, AV.cells, AS.upd, Option.bind_some, Option.bind_none, Option.map_some, Option.map_none, Option.getD_none, Option.getD_some, ↓reduceIte, Nat.reduceEqDiff, Nat.reduceAdd, Nat.reduceMul, Nat.reduceSub, List.nil_append, List.append_nil, List.cons_append, List.map_cons, List.map_nil, true_and, and_true, AS.fin, pick, dedup, List.mem_cons, List.not_mem_nil, or_false, false_or, List.size_toArray, List.length_cons, List.length_nil, loadAV, List.drop_zero, List.drop_succ_cons, List.take_zero, List.take_succ_cons, List.getElem?_cons_zero, List.getElem?_cons_succ, List.head?_cons, List.mapM_cons, List.mapM_nil, Option.bind_eq_bind, Option.pure_def, deeps3, deep3, deep2, deep1, deeps, deeps2, mixInts, AV.plain, mk, mkD, DCon.lift, DCon.runC, ren3, ren2, ren1, numb, List.zipIdx_nil, List.zipIdx_cons, List.all_nil, List.all_cons, Nat.reduceLeDiff, List.range, List.range.loop, Ty.sz, beq_self_eq_true, Bool.and_self, and_self, Ty.ofC, AO.isDead, Nat.reduceLT, if_true, Nat.zero_add, Nat.add_zero, ite_true, Nat.le_refl, Bool.false_eq_true, reduceCtorEq, if_false, ite_false, binAV, AO.ren, AV.isCell, fillAV, List.set_cons_zero, List.set_cons_succ, Ty.cells, Ty.flat, Ty.dflt, List.getD_cons_zero, List.getD_cons_succ, Int.reduceToNat, Int.reduceSub, Int.reduceAdd, Int.reduceMul, Int.reduceNeg, forall_eq_or_imp, forall_eq, gdL, id_eq, Nat.lt_irrefl, srcOf, List.replicate_succ, List.replicate_zero, dite_true, List.isEmpty_cons, Option.isSome_some, List.length_append, List.length_singleton, bne_self_eq_false, Bool.not_true, Bool.not_false, conF, asArgs, asArg, asTy, asI1, asB1, asS1, asL1, canons, canon, Fork.true_, Fork.false_, bne, Bool.not_not, List.length_map, pickO, AS.over, TI.bl, bne_iff_ne, AS.over2, without, keys, List.mem_singleton, memOp2, memOp3, absorb, abInt, abBool, abStr, abList, gones, Int.toNat_natCast, List.take_length, subE, List.nodup_cons, List.nodup_nil, not_false_eq_true, Nat.sub_self, conR, asG, asI, asBo, asStr, asIs, asBs, asE4, asI2, asI3, asLL, asLLL, Th_int, Th_implGroup, Th_string, Th_uint, G_rBits, c_l1In, hL])
    | ((with_reducible refine ens_step ?_ (fun hE => ?_)); · ((repeat' with_reducible apply And.intro) <;> first | with_reducible assumption | omega | exact True.intro | with_reducible rfl | (show ByteArray.size _ ≤ _; decide) | (simp; done) | (simp; omega) | rfl))
    | ((with_reducible refine And.intro ?_ ?_); · ((repeat' with_reducible apply And.intro) <;> first | with_reducible assumption | omega | exact True.intro | with_reducible rfl | (show ByteArray.size _ ≤ _; decide) | (simp; done) | (simp; omega) | rfl))
    | ((with_reducible refine Fork.intro (fun h' => ?_) (fun h' => ?_)) <;> (try simp only [Bool.not_eq_true', Bool.not_eq_false', bne] at h') <;> (replace hL := And.intro h' hL) <;> (try simp only [decide_eq_true_eq, decide_eq_false_iff_not, beq_iff_eq, beq_eq_false_iff_ne, ne_eq] at h') <;> (try (have hin := inr_t h'; have hp16 := pow16 hin)))
    | (with_reducible refine AWp.skipS ?_)
    | ((with_reducible refine AWp.condT rfl ?_))
    | ((with_reducible refine AWp.condF rfl ?_))
    | (with_reducible refine AWp.condB rfl ?_)
    | (with_reducible refine AWp.ret ?_)
    | (with_reducible refine seqQ_n ?_)
    | (with_reducible refine seqQ_ret ?_)
    | (with_reducible refine blkQ_ret ?_)
    | (with_reducible refine blkQ_n ?_)
    | (with_reducible refine seqQ_exit ?_)
    | (with_reducible refine blkQ_exit ?_)
    | (with_reducible refine blkQ_other (by decide) ?_)
    | (with_reducible refine AWp.block ?_)
    | (with_reducible refine AWp.exit ?_)
    | (with_reducible refine AWp.skip ?_)
    | ((with_reducible refine EndsAt_id ?_); (try subst_vars); (try simp only [okRg, hL, List.length_cons, List.length_nil, Nat.zero_add, Nat.reduceAdd, Bool.and_true, Bool.and_false, Bool.true_and, Bool.false_and, Bool.and_self, ↓reduceIte, Bool.false_eq_true, Bool.not_true, Bool.not_false, bne]); refine EndsAt.done [] (by first | exact .inr rfl | exact .inl rfl) rfl rfl ?_ ?_ <;> first | decide | (repeat' (first | rfl | apply And.intro | trivial)))
    | (with_reducible refine AWp.seq ?_)⟩
noncomputable def c_verifyRange : Con0 := conF [(.pair .int (.pair .int .int)), (.pair .int (.list .int)), .int, .int, (.pair (.list .int) (.list (.pair (.list .int) (.pair (.list .int) (.list .int)))))] fun (⟨⟨p, q, g⟩, ⟨bh, bs⟩, c, n, ⟨rb, rp⟩, _⟩ : (Int × Int × Int) × (Int × List Int) × Int × Int × ((List Int) × (List ((List Int) × (List Int) × (List Int)))) × Unit) => (M.Grp p q g ∧ (0 ≤ bh ∧ bh < p) ∧ (1 ≤ n ∧ n ≤ 16) ∧ (2 : Int) ^ n.toNat < q, .lit (.bool (rgV p q g bh c n rb rp)), [])
noncomputable def G_verifyRange : List (FuncId × Con) := [(74, mk c_hasAll), (85, mk c_verifyBit), (55, mk c_pow), (54, mk c_mul)]
theorem G_verifyRange_ok : ∀ f C, (f, C) ∈ G_verifyRange → C.ok Try.prog f := by
  intro f C h
  simp only [G_verifyRange, List.mem_cons, Prod.mk.injEq, List.not_mem_nil, or_false] at h
  rcases h with ⟨rfl, rfl⟩ | ⟨rfl, rfl⟩ | ⟨rfl, rfl⟩ | ⟨rfl, rfl⟩
  · exact ok_hasAll
  · exact ok_verifyBit
  · exact ok_pow
  · exact ok_mul
set_option maxRecDepth 100000 in
set_option maxHeartbeats 4000000 in
theorem ok_verifyRange : (mk c_verifyRange).ok Try.prog 47 := okF (Θ := Th) (N := 65) (rs := [.tmp 10]) Th_ok Try.func47 (by kernel_rfl) rfl Try.results47 (by decide) (by kernel_rfl) fun (⟨⟨p, q, g⟩, ⟨bh, bs⟩, c, n, ⟨rb, rp⟩, _⟩ : (Int × Int × Int) × (Int × List Int) × Int × Int × ((List Int) × (List ((List Int) × (List Int) × (List Int)))) × Unit) => ⟨rfl, rfl, Nat.le_of_ble_eq_true rfl, fun hc w0 => by
  have hL := dmy_eq
  try dsimp only at hc
  try dsimp only
  obtain ⟨hG, hbb, hn, h2n⟩ := hc
  have hq2 := hG.q2
  have hqp := hG.qp
  have hp3 := hG.p3
  have hpM := hG.pM
  have hgb : 0 ≤ g ∧ g < p := ⟨by have := hG.g2; omega, hG.gp⟩
  refine AWp.body rfl ?_
  repeat' first
    | ((with_reducible refine hK _ _ ?_); clear hK K)
    | ((with_reducible refine hK _ _ (by kernel_rfl) ?_); clear hK K)
    | ((with_reducible refine AWp.pS Th_ok G_verifyRange_ok [0, 1, 2, 3, 4, 5, 6, 9, 10, 11, 12, 13, 32, 34, 35, 36, 37, 50] (by decide) ?_); intro K hK)
    | ((with_reducible refine AWp.dS (by kernel_rfl) Th_ok G_verifyRange_ok [0, 1, 2, 3, 4, 5, 6, 9, 10, 11, 12, 13, 32, 34, 35, 36, 37, 50] ?_); intro K hK)
    | ((with_reducible refine AWp.pE Th_ok G_verifyRange_ok [0, 1, 2, 3, 4, 5, 6, 9, 10, 11, 12, 13, 32, 34, 35, 36, 37, 50] (by decide) ?_); intro K hK)
    | ((with_reducible refine AWp.dE (by kernel_rfl) Th_ok G_verifyRange_ok [0, 1, 2, 3, 4, 5, 6, 9, 10, 11, 12, 13, 32, 34, 35, 36, 37, 50] ?_); intro K hK)
    | ((first | with_reducible refine runF_id ?_ | with_reducible refine stepF_id ?_); simp (maxSteps := 2000000) only [runF, stepF, forkOf, gdOf, List.toList_toArray, stepOp, look, opAV, pureOp, callOp, memOp, AS.ev, AS.get, AS.obj, initS, initFrom, AV.cells, AS.upd, Option.bind_some, Option.bind_none, Option.map_some, Option.map_none, Option.getD_none, Option.getD_some, ↓reduceIte, Nat.reduceEqDiff, Nat.reduceAdd, Nat.reduceMul, Nat.reduceSub, List.nil_append, List.append_nil, List.cons_append, List.map_cons, List.map_nil, true_and, and_true, AS.fin, pick, dedup, List.mem_cons, List.not_mem_nil, or_false, false_or, List.size_toArray, List.length_cons, List.length_nil, loadAV, List.drop_zero, List.drop_succ_cons, List.take_zero, List.take_succ_cons, List.getElem?_cons_zero, List.getElem?_cons_succ, List.head?_cons, List.mapM_cons, List.mapM_nil, Option.bind_eq_bind, Option.pure_def, deeps3, deep3, deep2, deep1, deeps, deeps2, mixInts, AV.plain, mk, mkD, DCon.lift, DCon.runC, ren3, ren2, ren1, numb, List.zipIdx_nil, List.zipIdx_cons, List.all_nil, List.all_cons, Nat.reduceLeDiff, List.range, List.range.loop, Ty.sz, beq_self_eq_true, Bool.and_self, and_self, Ty.ofC, AO.isDead, Nat.reduceLT, if_true, Nat.zero_add, Nat.add_zero, ite_true, Nat.le_refl, Bool.false_eq_true, reduceCtorEq, if_false, ite_false, binAV, AO.ren, AV.isCell, fillAV, List.set_cons_zero, List.set_cons_succ, Ty.cells, Ty.flat, Ty.dflt, List.getD_cons_zero, List.getD_cons_succ, Int.reduceToNat, Int.reduceSub, Int.reduceAdd, Int.reduceMul, Int.reduceNeg, forall_eq_or_imp, forall_eq, gdL, id_eq, Nat.lt_irrefl, srcOf, List.replicate_succ, List.replicate_zero, dite_true, List.isEmpty_cons, Option.isSome_some, List.length_append, List.length_singleton, bne_self_eq_false, Bool.not_true, Bool.not_false, conF, asArgs, asArg, asTy, asI1, asB1, asS1, asL1, canons, canon, Fork.true_, Fork.false_, bne, Bool.not_not, List.length_map, pickO, AS.over, TI.bl, bne_iff_ne, AS.over2, without, keys, List.mem_singleton, memOp2, memOp3, absorb, abInt, abBool, abStr, abList, gones, Int.toNat_natCast, List.take_length, subE, List.nodup_cons, List.nodup_nil, not_false_eq_true, Nat.sub_self, conR, asG, asI, asBo, asStr, asIs, asBs, asE4, asI2, asI3, asLL, asLLL, Th_int, Th_Sint, Th_bool, Th_implBases, Th_implGroup, Th_implProof, Th_implRangeProof, Th_implSProof, Th_implSTranscript, Th_lawsBases, Th_lawsGroup, Th_lawsRangeProof, Th_lawsSProof, Th_string, Th_uint, G_verifyRange, c_hasAll, c_verifyBit, c_pow, c_mul, hL])
    | ((with_reducible refine ens_step ?_ (fun hE => ?_)); · ((repeat' with_reducible apply And.intro) <;> first | with_reducible assumption | omega | exact True.intro | with_reducible rfl | (show ByteArray.size _ ≤ _; decide) | (simp; done) | (simp; omega) | rfl))
    | ((with_reducible refine And.intro ?_ ?_); · ((repeat' with_reducible apply And.intro) <;> first | with_reducible assumption | omega | exact True.intro | with_reducible rfl | (show ByteArray.size _ ≤ _; decide) | (simp; done) | (simp; omega) | rfl))
    | ((with_reducible refine Fork.intro (fun h' => ?_) (fun h' => ?_)) <;> (try simp only [Bool.not_eq_true', Bool.not_eq_false', bne] at h') <;> (replace hL := And.intro h' hL) <;> (try simp only [decide_eq_true_eq, decide_eq_false_iff_not, beq_iff_eq, beq_eq_false_iff_ne, ne_eq] at h') <;> (try (have hrn : (rb.length : Int) = n := h'; have hrl : n.toNat = rb.length := (by omega); rw [hrl] at h2n; have hhp := M.rpI_hor (p := p) (q := q) (by omega) (bits := rb) (fun j hj => M.two_lt h2n hj); replace hL := And.intro hhp hL)) <;> (try (have hrpn : (rp.length : Int) = n := h')) <;> (try (have hre := elemsB_bd' h')) <;> (try (have hke : k = rb.length := (by omega); subst hke; replace hL := And.intro hz2 hL)) <;> (try (have hrk := getD_bd' hre (k := k) (by omega); have hpk := pow_k h2n (k := k) (by omega); have hgk := M.gpw_lt (p := p) (q := q) (x := rb.getD k 0) (e := 1 * 2 ^ k) hp3; have hri := M.rpI_bd (q := q) hp3 (bits := rb) k; have hal := all2r hri hgk)) <;> (try (have hbt := bkA_t hz2 hL.1)) <;> (try (have hbf := bkA_f (m := rb.length) (by omega) hL.1; replace hL := And.intro hbf hL)))
    | (with_reducible refine AWp.skipS ?_)
    | ((with_reducible refine AWp.condT rfl ?_))
    | ((with_reducible refine AWp.condF rfl ?_))
    | (with_reducible refine AWp.condB rfl ?_)
    | (with_reducible refine AWp.ret ?_)
    | (with_reducible refine seqQ_n ?_)
    | (with_reducible refine seqQ_ret ?_)
    | (with_reducible refine blkQ_ret ?_)
    | (with_reducible refine blkQ_n ?_)
    | (with_reducible refine seqQ_exit ?_)
    | (with_reducible refine blkQ_exit ?_)
    | (with_reducible refine blkQ_other (by decide) ?_)
    | (with_reducible refine AWp.block ?_)
    | (with_reducible refine AWp.exit ?_)
    | (with_reducible refine AWp.skip ?_)
    | ((with_reducible refine loop_id ?_); refine AWp.loopAt 5 rfl ?_; refine AWp.loopO [10, 11, 12, 13, 36, 37, 38, 39, 40, 41, 42, 43, 44, 45, 46, 47, 48, 49, 50, 51, 52, 53, 54, 55, 56, 57, 58, 59, 60, 61] (fun k => [(36, .lit (.int .i64 (k : Nat))), (11, .lit (.int .i64 (M.rpI p q rb k)))]) (fun k => []) (fun k => k ≤ rb.length ∧ bkA p q g bh rb rp k = true) (fun k => rb.length - k) 0 (by exact ⟨by omega, bkA_0⟩) (by refine Sub.auto (by first | exact frok0 | assumption) rfl rfl ?_ ?_ <;> (try simp only [subE, AS.over2, without, keys, look, List.cons_append, List.nil_append, List.append_nil, List.mem_cons, List.not_mem_nil, or_false, or_true, true_or, false_or, Nat.reduceEqDiff, ↓reduceIte, Option.some.injEq, AV.lit.injEq, Value.int.injEq, Value.bool.injEq, AV.own.injEq, AO.row.injEq, AO.box.injEq, List.cons.injEq, AV.agg.injEq, AV.sl.injEq, true_and, and_true, and_self, heq_eq_eq, List.length_nil, List.length_cons, List.map_nil, List.take_zero, Int.natCast_add, Int.cast_ofNat_Int, Int.natCast_zero, List.length_append, List.length_map, List.length_take, Nat.zero_add]) <;> (simp [M.rpI])) (fun k hk_5 L5 hLoop5 => ?_); obtain ⟨hz1, hz2⟩ := hk_5)
    | ((with_reducible refine seqQ_f ?_); refine hLoop5 (k + 1) _ (by exact ⟨by omega, hbt⟩) (by omega) ?_; (refine Sub.auto (by first | exact frok0 | assumption) rfl rfl ?_ ?_ <;> (try simp only [subE, AS.over2, without, keys, look, List.cons_append, List.nil_append, List.append_nil, List.mem_cons, List.not_mem_nil, or_false, or_true, true_or, false_or, Nat.reduceEqDiff, ↓reduceIte, Option.some.injEq, AV.lit.injEq, Value.int.injEq, Value.bool.injEq, AV.own.injEq, AO.row.injEq, AO.box.injEq, List.cons.injEq, AV.agg.injEq, AV.sl.injEq, true_and, and_true, and_self, heq_eq_eq, List.length_nil, List.length_cons, List.map_nil, List.take_zero, Int.natCast_add, Int.cast_ofNat_Int, Int.natCast_zero, List.length_append, List.length_map, List.length_take, Nat.zero_add]) <;> ((repeat' apply And.intro) <;> first | rfl | omega | exact rpI_step)))
    | ((with_reducible refine EndsAt_id ?_); (try subst_vars); (try simp only [rgV, hL, List.length_cons, List.length_nil, Nat.zero_add, Nat.reduceAdd, Bool.and_true, Bool.and_false, Bool.true_and, Bool.false_and, Bool.and_self, ↓reduceIte, Bool.false_eq_true, Bool.not_true, Bool.not_false, bne]); refine EndsAt.done [] (by first | exact .inr rfl | exact .inl rfl) rfl rfl ?_ ?_ <;> first | decide | (repeat' (first | rfl | apply And.intro | trivial)))
    | (with_reducible refine AWp.seq ?_)⟩
noncomputable def c_rIsRange : Con0 := conF [(.pair .int (.pair .int .int)), (.pair .int (.list .int)), .int, .int, (.pair (.list .int) (.list (.pair (.list .int) (.pair (.list .int) (.list .int)))))] fun (⟨⟨p, q, g⟩, ⟨bh, bs⟩, c, n, ⟨rb, rp⟩, _⟩ : (Int × Int × Int) × (Int × List Int) × Int × Int × ((List Int) × (List ((List Int) × (List Int) × (List Int)))) × Unit) => (M.Grp p q g ∧ (0 ≤ bh ∧ bh < p) ∧ (1 ≤ n ∧ n ≤ 16) ∧ (2 : Int) ^ n.toNat < q, .lit (.bool (rgV p q g bh c n rb rp)), [])
noncomputable def G_rIsRange : List (FuncId × Con) := [(41, mk c_gIs), (50, mk c_gMul), (80, mk c_rIsBit)]
theorem G_rIsRange_ok : ∀ f C, (f, C) ∈ G_rIsRange → C.ok Try.prog f := by
  intro f C h
  simp only [G_rIsRange, List.mem_cons, Prod.mk.injEq, List.not_mem_nil, or_false] at h
  rcases h with ⟨rfl, rfl⟩ | ⟨rfl, rfl⟩ | ⟨rfl, rfl⟩
  · exact ok_gIs
  · exact ok_gMul
  · exact ok_rIsBit
set_option maxRecDepth 100000 in
set_option maxHeartbeats 4000000 in
theorem ok_rIsRange : (mk c_rIsRange).ok Try.prog 42 := okF (Θ := Th) (N := 72) (rs := [.tmp 10]) Th_ok Try.func42 (by kernel_rfl) rfl Try.results42 (by decide) (by kernel_rfl) fun (⟨⟨p, q, g⟩, ⟨bh, bs⟩, c, n, ⟨rb, rp⟩, _⟩ : (Int × Int × Int) × (Int × List Int) × Int × Int × ((List Int) × (List ((List Int) × (List Int) × (List Int)))) × Unit) => ⟨rfl, rfl, Nat.le_of_ble_eq_true rfl, fun hc w0 => by
  have hL := dmy_eq
  try dsimp only at hc
  try dsimp only
  obtain ⟨hG, hbb, hn, h2n⟩ := hc
  have hq2 := hG.q2
  have hqp := hG.qp
  have hp3 := hG.p3
  have hpM := hG.pM
  have hgb : 0 ≤ g ∧ g < p := ⟨by have := hG.g2; omega, hG.gp⟩
  refine AWp.body rfl ?_
  repeat' first
    | ((with_reducible refine hK _ _ ?_); clear hK K)
    | ((with_reducible refine hK _ _ (by kernel_rfl) ?_); clear hK K)
    | ((with_reducible refine AWp.pS Th_ok G_rIsRange_ok [0, 1, 2, 3, 4, 5, 6, 9, 10, 11, 12, 13, 14, 33, 37, 52, 54, 55, 56, 57, 70] (by decide) ?_); intro K hK)
    | ((with_reducible refine AWp.dS (by kernel_rfl) Th_ok G_rIsRange_ok [0, 1, 2, 3, 4, 5, 6, 9, 10, 11, 12, 13, 14, 33, 37, 52, 54, 55, 56, 57, 70] ?_); intro K hK)
    | ((with_reducible refine AWp.pE Th_ok G_rIsRange_ok [0, 1, 2, 3, 4, 5, 6, 9, 10, 11, 12, 13, 14, 33, 37, 52, 54, 55, 56, 57, 70] (by decide) ?_); intro K hK)
    | ((with_reducible refine AWp.dE (by kernel_rfl) Th_ok G_rIsRange_ok [0, 1, 2, 3, 4, 5, 6, 9, 10, 11, 12, 13, 14, 33, 37, 52, 54, 55, 56, 57, 70] ?_); intro K hK)
    | ((first | with_reducible refine runF_id ?_ | with_reducible refine stepF_id ?_); simp (maxSteps := 2000000) only [runF, stepF, forkOf, gdOf, List.toList_toArray, stepOp, look, opAV, pureOp, callOp, memOp, AS.ev, AS.get, AS.obj, initS, initFrom, AV.cells, AS.upd, Option.bind_some, Option.bind_none, Option.map_some, Option.map_none, Option.getD_none, Option.getD_some, ↓reduceIte, Nat.reduceEqDiff, Nat.reduceAdd, Nat.reduceMul, Nat.reduceSub, List.nil_append, List.append_nil, List.cons_append, List.map_cons, List.map_nil, true_and, and_true, AS.fin, pick, dedup, List.mem_cons, List.not_mem_nil, or_false, false_or, List.size_toArray, List.length_cons, List.length_nil, loadAV, List.drop_zero, List.drop_succ_cons, List.take_zero, List.take_succ_cons, List.getElem?_cons_zero, List.getElem?_cons_succ, List.head?_cons, List.mapM_cons, List.mapM_nil, Option.bind_eq_bind, Option.pure_def, deeps3, deep3, deep2, deep1, deeps, deeps2, mixInts, AV.plain, mk, mkD, DCon.lift, DCon.runC, ren3, ren2, ren1, numb, List.zipIdx_nil, List.zipIdx_cons, List.all_nil, List.all_cons, Nat.reduceLeDiff, List.range, List.range.loop, Ty.sz, beq_self_eq_true, Bool.and_self, and_self, Ty.ofC, AO.isDead, Nat.reduceLT, if_true, Nat.zero_add, Nat.add_zero, ite_true, Nat.le_refl, Bool.false_eq_true, reduceCtorEq, if_false, ite_false, binAV, AO.ren, AV.isCell, fillAV, List.set_cons_zero, List.set_cons_succ, Ty.cells, Ty.flat, Ty.dflt, List.getD_cons_zero, List.getD_cons_succ, Int.reduceToNat, Int.reduceSub, Int.reduceAdd, Int.reduceMul, Int.reduceNeg, forall_eq_or_imp, forall_eq, gdL, id_eq, Nat.lt_irrefl, srcOf, List.replicate_succ, List.replicate_zero, dite_true, List.isEmpty_cons, Option.isSome_some, List.length_append, List.length_singleton, bne_self_eq_false, Bool.not_true, Bool.not_false, conF, asArgs, asArg, asTy, asI1, asB1, asS1, asL1, canons, canon, Fork.true_, Fork.false_, bne, Bool.not_not, List.length_map, pickO, AS.over, TI.bl, bne_iff_ne, AS.over2, without, keys, List.mem_singleton, memOp2, memOp3, absorb, abInt, abBool, abStr, abList, gones, Int.toNat_natCast, List.take_length, subE, List.nodup_cons, List.nodup_nil, not_false_eq_true, Nat.sub_self, conR, asG, asI, asBo, asStr, asIs, asBs, asE4, asI2, asI3, asLL, asLLL, Th_int, Th_Sint, Th_bool, Th_implBases, Th_implGroup, Th_implProof, Th_implRangeProof, Th_implSProof, Th_implSTranscript, Th_lawsBases, Th_lawsGroup, Th_lawsRangeProof, Th_lawsSProof, Th_string, G_rIsRange, c_gIs, c_gMul, c_rIsBit, hL])
    | ((with_reducible refine ens_step ?_ (fun hE => ?_)); · ((repeat' with_reducible apply And.intro) <;> first | with_reducible assumption | omega | exact True.intro | with_reducible rfl | (show ByteArray.size _ ≤ _; decide) | (simp; done) | (simp; omega) | rfl))
    | ((with_reducible refine And.intro ?_ ?_); · ((repeat' with_reducible apply And.intro) <;> first | with_reducible assumption | omega | exact True.intro | with_reducible rfl | (show ByteArray.size _ ≤ _; decide) | (simp; done) | (simp; omega) | rfl))
    | ((with_reducible refine Fork.intro (fun h' => ?_) (fun h' => ?_)) <;> (try simp only [Bool.not_eq_true', Bool.not_eq_false', bne] at h') <;> (replace hL := And.intro h' hL) <;> (try simp only [decide_eq_true_eq, decide_eq_false_iff_not, beq_iff_eq, beq_eq_false_iff_ne, ne_eq] at h') <;> (try (have hrn : (rb.length : Int) = n := h'; have hrl : n.toNat = rb.length := (by omega); rw [hrl] at h2n; have hhp := M.rpI_hor (p := p) (q := q) (by omega) (bits := rb) (fun j hj => M.two_lt h2n hj); replace hL := And.intro hhp hL)) <;> (try (have hrpn : (rp.length : Int) = n := h')) <;> (try (have hre := elemsB_bd' h')) <;> (try (have hjj : ∃ j, k = j + 1 := ⟨k - 1, by omega⟩; obtain ⟨j, rfl⟩ := hjj; have hj1 : ((j + 1 : Nat) : Int) - 1 = j := (by omega); have hrj := getD_bd' hre (k := j) (by omega); have hhj := M.hor_bd hp3 (rb.drop (j + 1)); have hal := all3 hhj hhj hrj; have hst := hor_at (p := p) (rb := rb) (k := j) (by omega); replace hL := And.intro hst (And.intro hj1 hL))) <;> (try (have hk0 : k = 0 := (by omega); subst hk0; replace hL := And.intro (List.drop_zero (l := rb)) hL)) <;> (try (have hmk := getD_bd' hre (k := m) (by omega))) <;> (try (have hbt := bkA_t hy2 hL.1)) <;> (try (have hbf := bkA_f (m := rb.length) (k := m) (by omega) hL.1; replace hL := And.intro hbf hL)) <;> (try (have hme : m = rb.length := (by omega); subst hme; replace hL := And.intro hy2 hL)))
    | (with_reducible refine AWp.skipS ?_)
    | ((with_reducible refine AWp.condT rfl ?_))
    | ((with_reducible refine AWp.condF rfl ?_))
    | (with_reducible refine AWp.condB rfl ?_)
    | (with_reducible refine AWp.ret ?_)
    | (with_reducible refine seqQ_n ?_)
    | (with_reducible refine seqQ_ret ?_)
    | (with_reducible refine blkQ_ret ?_)
    | (with_reducible refine blkQ_n ?_)
    | (with_reducible refine seqQ_exit ?_)
    | (with_reducible refine blkQ_exit ?_)
    | (with_reducible refine blkQ_other (by decide) ?_)
    | (with_reducible refine AWp.block ?_)
    | (with_reducible refine AWp.exit ?_)
    | (with_reducible refine AWp.skip ?_)
    | ((with_reducible refine loop_id ?_); refine AWp.loopAt 5 rfl ?_; refine AWp.loopO [11, 12, 36, 37, 38, 39, 40, 41, 42, 43, 44, 45, 46, 47, 48, 49] (fun k => [(12, .lit (.int .i64 ((k : Nat) - 1))), (11, .lit (.int .i64 (M.hor p (rb.drop k))))]) (fun k => []) (fun k => k ≤ rb.length) (fun k => k) rb.length (by omega) (by refine Sub.auto (by first | exact frok0 | assumption) rfl rfl ?_ ?_ <;> (try simp only [subE, AS.over2, without, keys, look, List.cons_append, List.nil_append, List.append_nil, List.mem_cons, List.not_mem_nil, or_false, or_true, true_or, false_or, Nat.reduceEqDiff, ↓reduceIte, Option.some.injEq, AV.lit.injEq, Value.int.injEq, Value.bool.injEq, AV.own.injEq, AO.row.injEq, AO.box.injEq, List.cons.injEq, AV.agg.injEq, AV.sl.injEq, true_and, and_true, and_self, heq_eq_eq, List.length_nil, List.length_cons, List.map_nil, List.take_zero, Int.natCast_add, Int.cast_ofNat_Int, Int.natCast_zero, List.length_append, List.length_map, List.length_take, Nat.zero_add]) <;> ((repeat' apply And.intro) <;> first | rfl | omega | exact hor_z.symm)) (fun k hk_5 L5 hLoop5 => ?_))
    | ((with_reducible refine seqQ_f ?_); refine hLoop5 (j) _ (by omega) (by omega) ?_; (refine Sub.auto (by first | exact frok0 | assumption) rfl rfl ?_ ?_ <;> (try simp only [subE, AS.over2, without, keys, look, List.cons_append, List.nil_append, List.append_nil, List.mem_cons, List.not_mem_nil, or_false, or_true, true_or, false_or, Nat.reduceEqDiff, ↓reduceIte, Option.some.injEq, AV.lit.injEq, Value.int.injEq, Value.bool.injEq, AV.own.injEq, AO.row.injEq, AO.box.injEq, List.cons.injEq, AV.agg.injEq, AV.sl.injEq, true_and, and_true, and_self, heq_eq_eq, List.length_nil, List.length_cons, List.map_nil, List.take_zero, Int.natCast_add, Int.cast_ofNat_Int, Int.natCast_zero, List.length_append, List.length_map, List.length_take, Nat.zero_add]) <;> ((repeat' apply And.intro) <;> first | rfl | omega | exact hst | exact hj1)))
    | ((with_reducible refine loop_id ?_); refine AWp.loopAt 11 rfl ?_; refine AWp.loopO [10, 13, 14, 56, 57, 58, 59, 60, 61, 62, 63, 64, 65, 66, 67, 68, 69, 70, 71] (fun m => [(56, .lit (.int .i64 (m : Nat)))]) (fun m => []) (fun m => m ≤ rb.length ∧ bkA p q g bh rb rp m = true) (fun m => rb.length - m) 0 (by exact ⟨by omega, bkA_0⟩) (by refine Sub.auto (by first | exact frok0 | assumption) rfl rfl ?_ ?_ <;> (try simp only [subE, AS.over2, without, keys, look, List.cons_append, List.nil_append, List.append_nil, List.mem_cons, List.not_mem_nil, or_false, or_true, true_or, false_or, Nat.reduceEqDiff, ↓reduceIte, Option.some.injEq, AV.lit.injEq, Value.int.injEq, Value.bool.injEq, AV.own.injEq, AO.row.injEq, AO.box.injEq, List.cons.injEq, AV.agg.injEq, AV.sl.injEq, true_and, and_true, and_self, heq_eq_eq, List.length_nil, List.length_cons, List.map_nil, List.take_zero, Int.natCast_add, Int.cast_ofNat_Int, Int.natCast_zero, List.length_append, List.length_map, List.length_take, Nat.zero_add]) <;> (simp)) (fun m hm_11 L11 hLoop11 => ?_); obtain ⟨hy1, hy2⟩ := hm_11)
    | ((with_reducible refine seqQ_f ?_); refine hLoop11 (m + 1) _ (by exact ⟨by omega, hbt⟩) (by omega) ?_; (refine Sub.auto (by first | exact frok0 | assumption) rfl rfl ?_ ?_ <;> (try simp only [subE, AS.over2, without, keys, look, List.cons_append, List.nil_append, List.append_nil, List.mem_cons, List.not_mem_nil, or_false, or_true, true_or, false_or, Nat.reduceEqDiff, ↓reduceIte, Option.some.injEq, AV.lit.injEq, Value.int.injEq, Value.bool.injEq, AV.own.injEq, AO.row.injEq, AO.box.injEq, List.cons.injEq, AV.agg.injEq, AV.sl.injEq, true_and, and_true, and_self, heq_eq_eq, List.length_nil, List.length_cons, List.map_nil, List.take_zero, Int.natCast_add, Int.cast_ofNat_Int, Int.natCast_zero, List.length_append, List.length_map, List.length_take, Nat.zero_add]) <;> (omega)))
    | ((with_reducible refine EndsAt_id ?_); (try subst_vars); (try simp only [rgV, hL, List.length_cons, List.length_nil, Nat.zero_add, Nat.reduceAdd, Bool.and_true, Bool.and_false, Bool.true_and, Bool.false_and, Bool.and_self, ↓reduceIte, Bool.false_eq_true, Bool.not_true, Bool.not_false, bne]); refine EndsAt.done [] (by first | exact .inr rfl | exact .inl rfl) rfl rfl ?_ ?_ <;> first | decide | (repeat' (first | rfl | apply And.intro | trivial)))
    | (with_reducible refine AWp.seq ?_)⟩
noncomputable def okVr (p q g bh : Int) (bs : List Int) (c n : Int) : Bool := l9B p q g bh bs && elemB p q c && okRg q n
noncomputable def okVi (p q g bh : Int) (bs : List Int) (c lo hi n : Int) : Bool := l9B p q g bh bs && elemB p q c && expsB q [lo, hi] && okRg q n
theorem mulL_sw {p a b : Int} (ha : 0 ≤ a ∧ a < p) (hb : 0 ≤ b ∧ b < p) : M.mulL p [a, b] = M.mulL p [b, a] := by
  rw [M.mulL_two ha, M.mulL_two hb, Int.mul_comm]
noncomputable def c_VerifyRangeI : Con0 := conF [(.pair .int (.pair .int .int)), (.pair .int (.list .int)), .int, .int, (.pair (.list .int) (.list (.pair (.list .int) (.pair (.list .int) (.list .int)))))] fun (⟨⟨p, q, g⟩, ⟨bh, bs⟩, c, n, ⟨rb, rp⟩, _⟩ : (Int × Int × Int) × (Int × List Int) × Int × Int × ((List Int) × (List ((List Int) × (List Int) × (List Int)))) × Unit) => (True, .tup [.lit (.bool (okVr p q g bh bs c n && rgV p q g bh c n rb rp)), .lit (.bool (okVr p q g bh bs c n))], [])
noncomputable def G_VerifyRangeI : List (FuncId × Con) := [(44, mk c_isValidBases), (45, mk c_has), (46, mk c_isRange), (47, mk c_verifyRange)]
theorem G_VerifyRangeI_ok : ∀ f C, (f, C) ∈ G_VerifyRangeI → C.ok Try.prog f := by
  intro f C h
  simp only [G_VerifyRangeI, List.mem_cons, Prod.mk.injEq, List.not_mem_nil, or_false] at h
  rcases h with ⟨rfl, rfl⟩ | ⟨rfl, rfl⟩ | ⟨rfl, rfl⟩ | ⟨rfl, rfl⟩
  · exact ok_isValidBases
  · exact ok_has
  · exact ok_isRange
  · exact ok_verifyRange
set_option maxRecDepth 100000 in
set_option maxHeartbeats 4000000 in
theorem ok_VerifyRangeI : (mk c_VerifyRangeI).ok Try.prog 15 := okF (Θ := Th) (N := 34) (rs := [.tmp 10, .tmp 11]) Th_ok Try.func15 (by kernel_rfl) rfl Try.results15 (by decide) (by kernel_rfl) fun (⟨⟨p, q, g⟩, ⟨bh, bs⟩, c, n, ⟨rb, rp⟩, _⟩ : (Int × Int × Int) × (Int × List Int) × Int × Int × ((List Int) × (List ((List Int) × (List Int) × (List Int)))) × Unit) => ⟨rfl, rfl, Nat.le_of_ble_eq_true rfl, fun hc w0 => by
  have hL := dmy_eq
  try dsimp only at hc
  try dsimp only
  refine AWp.body rfl ?_
  repeat' first
    | ((with_reducible refine hK _ _ ?_); clear hK K)
    | ((with_reducible refine hK _ _ (by kernel_rfl) ?_); clear hK K)
    | ((with_reducible refine AWp.pS Th_ok G_VerifyRangeI_ok [0, 1, 2, 3, 4, 5, 6, 9, 10, 11, 27] (by decide) ?_); intro K hK)
    | ((with_reducible refine AWp.dS (by kernel_rfl) Th_ok G_VerifyRangeI_ok [0, 1, 2, 3, 4, 5, 6, 9, 10, 11, 27] ?_); intro K hK)
    | ((with_reducible refine AWp.pE Th_ok G_VerifyRangeI_ok [0, 1, 2, 3, 4, 5, 6, 9, 10, 11, 27] (by decide) ?_); intro K hK)
    | ((with_reducible refine AWp.dE (by kernel_rfl) Th_ok G_VerifyRangeI_ok [0, 1, 2, 3, 4, 5, 6, 9, 10, 11, 27] ?_); intro K hK)
    | ((first | with_reducible refine runF_id ?_ | with_reducible refine stepF_id ?_); simp (maxSteps := 2000000) only [runF, stepF, forkOf, gdOf, List.toList_toArray, stepOp, look, opAV, pureOp, callOp, memOp, AS.ev, AS.get, AS.obj, initS, initFrom, AV.cells, AS.upd, Option.bind_some, Option.bind_none, Option.map_some, Option.map_none, Option.getD_none, Option.getD_some, ↓reduceIte, Nat.reduceEqDiff, Nat.reduceAdd, Nat.reduceMul, Nat.reduceSub, List.nil_append, List.append_nil, List.cons_append, List.map_cons, List.map_nil, true_and, and_true, AS.fin, pick, dedup, List.mem_cons, List.not_mem_nil, or_false, false_or, List.size_toArray, List.length_cons, List.length_nil, loadAV, List.drop_zero, List.drop_succ_cons, List.take_zero, List.take_succ_cons, List.getElem?_cons_zero, List.getElem?_cons_succ, List.head?_cons, List.mapM_cons, List.mapM_nil, Option.bind_eq_bind, Option.pure_def, deeps3, deep3, deep2, deep1, deeps, deeps2, mixInts, AV.plain, mk, mkD, DCon.lift, DCon.runC, ren3, ren2, ren1, numb, List.zipIdx_nil, List.zipIdx_cons, List.all_nil, List.all_cons, Nat.reduceLeDiff, List.range, List.range.loop, Ty.sz, beq_self_eq_true, Bool.and_self, and_self, Ty.ofC, AO.isDead, Nat.reduceLT, if_true, Nat.zero_add, Nat.add_zero, ite_true, Nat.le_refl, Bool.false_eq_true, reduceCtorEq, if_false, ite_false, binAV, AO.ren, AV.isCell, fillAV, List.set_cons_zero, List.set_cons_succ, Ty.cells, Ty.flat, Ty.dflt, List.getD_cons_zero, List.getD_cons_succ, Int.reduceToNat, Int.reduceSub, Int.reduceAdd, Int.reduceMul, Int.reduceNeg, forall_eq_or_imp, forall_eq, gdL, id_eq, Nat.lt_irrefl, srcOf, List.replicate_succ, List.replicate_zero, dite_true, List.isEmpty_cons, Option.isSome_some, List.length_append, List.length_singleton, bne_self_eq_false, Bool.not_true, Bool.not_false, conF, asArgs, asArg, asTy, asI1, asB1, asS1, asL1, canons, canon, Fork.true_, Fork.false_, bne, Bool.not_not, List.length_map, pickO, AS.over, TI.bl, bne_iff_ne, AS.over2, without, keys, List.mem_singleton, memOp2, memOp3, absorb, abInt, abBool, abStr, abList, gones, Int.toNat_natCast, List.take_length, subE, List.nodup_cons, List.nodup_nil, not_false_eq_true, Nat.sub_self, conR, asG, asI, asBo, asStr, asIs, asBs, asE4, asI2, asI3, asLL, asLLL, Th_int, Th_Sint, Th_bool, Th_implBases, Th_implGroup, Th_implRangeProof, Th_lawsBases, Th_lawsGroup, Th_lawsRangeProof, Th_string, G_VerifyRangeI, c_isValidBases, c_has, c_isRange, c_verifyRange, elemsB_1r, hL])
    | ((with_reducible refine ens_step ?_ (fun hE => ?_)); · ((repeat' with_reducible apply And.intro) <;> first | with_reducible assumption | omega | exact True.intro | with_reducible rfl | (show ByteArray.size _ ≤ _; decide) | (simp; done) | (simp; omega) | rfl))
    | ((with_reducible refine And.intro ?_ ?_); · ((repeat' with_reducible apply And.intro) <;> first | with_reducible assumption | omega | exact True.intro | with_reducible rfl | (show ByteArray.size _ ≤ _; decide) | (simp; done) | (simp; omega) | rfl))
    | ((with_reducible refine Fork.intro (fun h' => ?_) (fun h' => ?_)) <;> (try simp only [Bool.not_eq_true', Bool.not_eq_false', bne] at h') <;> (replace hL := And.intro h' hL) <;> (try simp only [decide_eq_true_eq, decide_eq_false_iff_not, beq_iff_eq, beq_eq_false_iff_ne, ne_eq] at h') <;> (try (have hl9 := l9B_useR h'; obtain ⟨hG, hbb, hq2, hqp, hp3, hpM, hgb⟩ := hl9)) <;> (try (have hec := elemB_bdr (a := c) h')) <;> (try (have hok : okRg q n = true := h'; have hru := okRg_use hok; obtain ⟨hn, h2n⟩ := hru; have hp16 := pow16 hn)))
    | (with_reducible refine AWp.skipS ?_)
    | ((with_reducible refine AWp.condT rfl ?_))
    | ((with_reducible refine AWp.condF rfl ?_))
    | (with_reducible refine AWp.condB rfl ?_)
    | (with_reducible refine AWp.ret ?_)
    | (with_reducible refine seqQ_n ?_)
    | (with_reducible refine seqQ_ret ?_)
    | (with_reducible refine blkQ_ret ?_)
    | (with_reducible refine blkQ_n ?_)
    | (with_reducible refine seqQ_exit ?_)
    | (with_reducible refine blkQ_exit ?_)
    | (with_reducible refine blkQ_other (by decide) ?_)
    | (with_reducible refine AWp.block ?_)
    | (with_reducible refine AWp.exit ?_)
    | (with_reducible refine AWp.skip ?_)
    | ((with_reducible refine EndsAt_id ?_); (try subst_vars); (try simp only [okVr, hL, List.length_cons, List.length_nil, Nat.zero_add, Nat.reduceAdd, Bool.and_true, Bool.and_false, Bool.true_and, Bool.false_and, Bool.and_self, ↓reduceIte, Bool.false_eq_true, Bool.not_true, Bool.not_false, bne]); refine EndsAt.done [] (by first | exact .inr rfl | exact .inl rfl) rfl rfl ?_ ?_ <;> first | decide | (repeat' (first | rfl | apply And.intro | trivial)))
    | (with_reducible refine AWp.seq ?_)⟩
noncomputable def c_VerifyRangeS : Con0 := conF [(.pair .int (.pair .int .int)), (.pair .int (.list .int)), .int, .int, (.pair (.list .int) (.list (.pair (.list .int) (.pair (.list .int) (.list .int)))))] fun (⟨⟨p, q, g⟩, ⟨bh, bs⟩, c, n, ⟨rb, rp⟩, _⟩ : (Int × Int × Int) × (Int × List Int) × Int × Int × ((List Int) × (List ((List Int) × (List Int) × (List Int)))) × Unit) => (True, .tup [.lit (.bool (okVr p q g bh bs c n && rgV p q g bh c n rb rp)), .lit (.bool (okVr p q g bh bs c n))], [])
noncomputable def G_VerifyRangeS : List (FuncId × Con) := [(39, mk c_l9Good), (40, mk c_rBits), (41, mk c_gIs), (42, mk c_rIsRange)]
theorem G_VerifyRangeS_ok : ∀ f C, (f, C) ∈ G_VerifyRangeS → C.ok Try.prog f := by
  intro f C h
  simp only [G_VerifyRangeS, List.mem_cons, Prod.mk.injEq, List.not_mem_nil, or_false] at h
  rcases h with ⟨rfl, rfl⟩ | ⟨rfl, rfl⟩ | ⟨rfl, rfl⟩ | ⟨rfl, rfl⟩
  · exact ok_l9Good
  · exact ok_rBits
  · exact ok_gIs
  · exact ok_rIsRange
set_option maxRecDepth 100000 in
set_option maxHeartbeats 4000000 in
theorem ok_VerifyRangeS : (mk c_VerifyRangeS).ok Try.prog 11 := okF (Θ := Th) (N := 35) (rs := [.tmp 10, .tmp 11]) Th_ok Try.func11 (by kernel_rfl) rfl Try.results11 (by decide) (by kernel_rfl) fun (⟨⟨p, q, g⟩, ⟨bh, bs⟩, c, n, ⟨rb, rp⟩, _⟩ : (Int × Int × Int) × (Int × List Int) × Int × Int × ((List Int) × (List ((List Int) × (List Int) × (List Int)))) × Unit) => ⟨rfl, rfl, Nat.le_of_ble_eq_true rfl, fun hc w0 => by
  have hL := dmy_eq
  try dsimp only at hc
  try dsimp only
  refine AWp.body rfl ?_
  repeat' first
    | ((with_reducible refine hK _ _ ?_); clear hK K)
    | ((with_reducible refine hK _ _ (by kernel_rfl) ?_); clear hK K)
    | ((with_reducible refine AWp.pS Th_ok G_VerifyRangeS_ok [0, 1, 2, 3, 4, 5, 6, 9, 10, 11, 28] (by decide) ?_); intro K hK)
    | ((with_reducible refine AWp.dS (by kernel_rfl) Th_ok G_VerifyRangeS_ok [0, 1, 2, 3, 4, 5, 6, 9, 10, 11, 28] ?_); intro K hK)
    | ((with_reducible refine AWp.pE Th_ok G_VerifyRangeS_ok [0, 1, 2, 3, 4, 5, 6, 9, 10, 11, 28] (by decide) ?_); intro K hK)
    | ((with_reducible refine AWp.dE (by kernel_rfl) Th_ok G_VerifyRangeS_ok [0, 1, 2, 3, 4, 5, 6, 9, 10, 11, 28] ?_); intro K hK)
    | ((first | with_reducible refine runF_id ?_ | with_reducible refine stepF_id ?_); simp (maxSteps := 2000000) only [runF, stepF, forkOf, gdOf, List.toList_toArray, stepOp, look, opAV, pureOp, callOp, memOp, AS.ev, AS.get, AS.obj, initS, initFrom, AV.cells, AS.upd, Option.bind_some, Option.bind_none, Option.map_some, Option.map_none, Option.getD_none, Option.getD_some, ↓reduceIte, Nat.reduceEqDiff, Nat.reduceAdd, Nat.reduceMul, Nat.reduceSub, List.nil_append, List.append_nil, List.cons_append, List.map_cons, List.map_nil, true_and, and_true, AS.fin, pick, dedup, List.mem_cons, List.not_mem_nil, or_false, false_or, List.size_toArray, List.length_cons, List.length_nil, loadAV, List.drop_zero, List.drop_succ_cons, List.take_zero, List.take_succ_cons, List.getElem?_cons_zero, List.getElem?_cons_succ, List.head?_cons, List.mapM_cons, List.mapM_nil, Option.bind_eq_bind, Option.pure_def, deeps3, deep3, deep2, deep1, deeps, deeps2, mixInts, AV.plain, mk, mkD, DCon.lift, DCon.runC, ren3, ren2, ren1, numb, List.zipIdx_nil, List.zipIdx_cons, List.all_nil, List.all_cons, Nat.reduceLeDiff, List.range, List.range.loop, Ty.sz, beq_self_eq_true, Bool.and_self, and_self, Ty.ofC, AO.isDead, Nat.reduceLT, if_true, Nat.zero_add, Nat.add_zero, ite_true, Nat.le_refl, Bool.false_eq_true, reduceCtorEq, if_false, ite_false, binAV, AO.ren, AV.isCell, fillAV, List.set_cons_zero, List.set_cons_succ, Ty.cells, Ty.flat, Ty.dflt, List.getD_cons_zero, List.getD_cons_succ, Int.reduceToNat, Int.reduceSub, Int.reduceAdd, Int.reduceMul, Int.reduceNeg, forall_eq_or_imp, forall_eq, gdL, id_eq, Nat.lt_irrefl, srcOf, List.replicate_succ, List.replicate_zero, dite_true, List.isEmpty_cons, Option.isSome_some, List.length_append, List.length_singleton, bne_self_eq_false, Bool.not_true, Bool.not_false, conF, asArgs, asArg, asTy, asI1, asB1, asS1, asL1, canons, canon, Fork.true_, Fork.false_, bne, Bool.not_not, List.length_map, pickO, AS.over, TI.bl, bne_iff_ne, AS.over2, without, keys, List.mem_singleton, memOp2, memOp3, absorb, abInt, abBool, abStr, abList, gones, Int.toNat_natCast, List.take_length, subE, List.nodup_cons, List.nodup_nil, not_false_eq_true, Nat.sub_self, conR, asG, asI, asBo, asStr, asIs, asBs, asE4, asI2, asI3, asLL, asLLL, Th_int, Th_Sint, Th_bool, Th_implBases, Th_implGroup, Th_implRangeProof, Th_lawsBases, Th_lawsGroup, Th_lawsRangeProof, Th_lawsSProof, Th_string, G_VerifyRangeS, c_l9Good, c_rBits, c_gIs, c_rIsRange, elemsB_1r, hL])
    | ((with_reducible refine ens_step ?_ (fun hE => ?_)); · ((repeat' with_reducible apply And.intro) <;> first | with_reducible assumption | omega | exact True.intro | with_reducible rfl | (show ByteArray.size _ ≤ _; decide) | (simp; done) | (simp; omega) | rfl))
    | ((with_reducible refine And.intro ?_ ?_); · ((repeat' with_reducible apply And.intro) <;> first | with_reducible assumption | omega | exact True.intro | with_reducible rfl | (show ByteArray.size _ ≤ _; decide) | (simp; done) | (simp; omega) | rfl))
    | ((with_reducible refine Fork.intro (fun h' => ?_) (fun h' => ?_)) <;> (try simp only [Bool.not_eq_true', Bool.not_eq_false', bne] at h') <;> (replace hL := And.intro h' hL) <;> (try simp only [decide_eq_true_eq, decide_eq_false_iff_not, beq_iff_eq, beq_eq_false_iff_ne, ne_eq] at h') <;> (try (have hl9 := l9B_useR h'; obtain ⟨hG, hbb, hq2, hqp, hp3, hpM, hgb⟩ := hl9)) <;> (try (have hec := elemB_bdr (a := c) h')) <;> (try (have hok : okRg q n = true := h'; have hru := okRg_use hok; obtain ⟨hn, h2n⟩ := hru; have hp16 := pow16 hn)))
    | (with_reducible refine AWp.skipS ?_)
    | ((with_reducible refine AWp.condT rfl ?_))
    | ((with_reducible refine AWp.condF rfl ?_))
    | (with_reducible refine AWp.condB rfl ?_)
    | (with_reducible refine AWp.ret ?_)
    | (with_reducible refine seqQ_n ?_)
    | (with_reducible refine seqQ_ret ?_)
    | (with_reducible refine blkQ_ret ?_)
    | (with_reducible refine blkQ_n ?_)
    | (with_reducible refine seqQ_exit ?_)
    | (with_reducible refine blkQ_exit ?_)
    | (with_reducible refine blkQ_other (by decide) ?_)
    | (with_reducible refine AWp.block ?_)
    | (with_reducible refine AWp.exit ?_)
    | (with_reducible refine AWp.skip ?_)
    | ((with_reducible refine EndsAt_id ?_); (try subst_vars); (try simp only [okVr, hL, List.length_cons, List.length_nil, Nat.zero_add, Nat.reduceAdd, Bool.and_true, Bool.and_false, Bool.true_and, Bool.false_and, Bool.and_self, ↓reduceIte, Bool.false_eq_true, Bool.not_true, Bool.not_false, bne]); refine EndsAt.done [] (by first | exact .inr rfl | exact .inl rfl) rfl rfl ?_ ?_ <;> first | decide | (repeat' (first | rfl | apply And.intro | trivial)))
    | (with_reducible refine AWp.seq ?_)⟩
noncomputable def c_VerifyIntervalI : Con0 := conF [(.pair .int (.pair .int .int)), (.pair .int (.list .int)), .int, .int, .int, .int, (.pair (.list .int) (.list (.pair (.list .int) (.pair (.list .int) (.list .int))))), (.pair (.list .int) (.list (.pair (.list .int) (.pair (.list .int) (.list .int)))))] fun (⟨⟨p, q, g⟩, ⟨bh, bs⟩, c, lo, hi, n, ⟨rb, rp⟩, ⟨tb, tp⟩, _⟩ : (Int × Int × Int) × (Int × List Int) × Int × Int × Int × Int × ((List Int) × (List ((List Int) × (List Int) × (List Int)))) × ((List Int) × (List ((List Int) × (List Int) × (List Int)))) × Unit) => (True, .tup [.lit (.bool (okVi p q g bh bs c lo hi n && (rgV p q g bh (M.mulL p [c, M.gpw p q g (-lo)]) n rb rp && rgV p q g bh (M.mulL p [M.gpw p q g hi, M.gpw p q c (-1)]) n tb tp))), .lit (.bool (okVi p q g bh bs c lo hi n))], [])
noncomputable def G_VerifyIntervalI : List (FuncId × Con) := [(44, mk c_isValidBases), (45, mk c_has), (53, mk c_areExps), (46, mk c_isRange), (55, mk c_pow), (54, mk c_mul), (47, mk c_verifyRange), (56, mk c_inv)]
theorem G_VerifyIntervalI_ok : ∀ f C, (f, C) ∈ G_VerifyIntervalI → C.ok Try.prog f := by
  intro f C h
  simp only [G_VerifyIntervalI, List.mem_cons, Prod.mk.injEq, List.not_mem_nil, or_false] at h
  rcases h with ⟨rfl, rfl⟩ | ⟨rfl, rfl⟩ | ⟨rfl, rfl⟩ | ⟨rfl, rfl⟩ | ⟨rfl, rfl⟩ | ⟨rfl, rfl⟩ | ⟨rfl, rfl⟩ | ⟨rfl, rfl⟩
  · exact ok_isValidBases
  · exact ok_has
  · exact ok_areExps
  · exact ok_isRange
  · exact ok_pow
  · exact ok_mul
  · exact ok_verifyRange
  · exact ok_inv
set_option maxRecDepth 100000 in
set_option maxHeartbeats 4000000 in
theorem ok_VerifyIntervalI : (mk c_VerifyIntervalI).ok Try.prog 19 := okF (Θ := Th) (N := 75) (rs := [.tmp 16, .tmp 17]) Th_ok Try.func19 (by kernel_rfl) rfl Try.results19 (by decide) (by kernel_rfl) fun (⟨⟨p, q, g⟩, ⟨bh, bs⟩, c, lo, hi, n, ⟨rb, rp⟩, ⟨tb, tp⟩, _⟩ : (Int × Int × Int) × (Int × List Int) × Int × Int × Int × Int × ((List Int) × (List ((List Int) × (List Int) × (List Int)))) × ((List Int) × (List ((List Int) × (List Int) × (List Int)))) × Unit) => ⟨rfl, rfl, Nat.le_of_ble_eq_true rfl, fun hc w0 => by
  have hL := dmy_eq
  try dsimp only at hc
  try dsimp only
  refine AWp.body rfl ?_
  repeat' first
    | ((with_reducible refine hK _ _ ?_); clear hK K)
    | ((with_reducible refine hK _ _ (by kernel_rfl) ?_); clear hK K)
    | ((with_reducible refine AWp.pS Th_ok G_VerifyIntervalI_ok [0, 1, 2, 3, 4, 5, 6, 7, 8, 9, 14, 15, 16, 17, 41] (by decide) ?_); intro K hK)
    | ((with_reducible refine AWp.dS (by kernel_rfl) Th_ok G_VerifyIntervalI_ok [0, 1, 2, 3, 4, 5, 6, 7, 8, 9, 14, 15, 16, 17, 41] ?_); intro K hK)
    | ((with_reducible refine AWp.pE Th_ok G_VerifyIntervalI_ok [0, 1, 2, 3, 4, 5, 6, 7, 8, 9, 14, 15, 16, 17, 41] (by decide) ?_); intro K hK)
    | ((with_reducible refine AWp.dE (by kernel_rfl) Th_ok G_VerifyIntervalI_ok [0, 1, 2, 3, 4, 5, 6, 7, 8, 9, 14, 15, 16, 17, 41] ?_); intro K hK)
    | ((first | with_reducible refine runF_id ?_ | with_reducible refine stepF_id ?_); simp (maxSteps := 2000000) only [runF, stepF, forkOf, gdOf, List.toList_toArray, stepOp, look, opAV, pureOp, callOp, memOp, AS.ev, AS.get, AS.obj, initS, initFrom, AV.cells, AS.upd, Option.bind_some, Option.bind_none, Option.map_some, Option.map_none, Option.getD_none, Option.getD_some, ↓reduceIte, Nat.reduceEqDiff, Nat.reduceAdd, Nat.reduceMul, Nat.reduceSub, List.nil_append, List.append_nil, List.cons_append, List.map_cons, List.map_nil, true_and, and_true, AS.fin, pick, dedup, List.mem_cons, List.not_mem_nil, or_false, false_or, List.size_toArray, List.length_cons, List.length_nil, loadAV, List.drop_zero, List.drop_succ_cons, List.take_zero, List.take_succ_cons, List.getElem?_cons_zero, List.getElem?_cons_succ, List.head?_cons, List.mapM_cons, List.mapM_nil, Option.bind_eq_bind, Option.pure_def, deeps3, deep3, deep2, deep1, deeps, deeps2, mixInts, AV.plain, mk, mkD, DCon.lift, DCon.runC, ren3, ren2, ren1, numb, List.zipIdx_nil, List.zipIdx_cons, List.all_nil, List.all_cons, Nat.reduceLeDiff, List.range, List.range.loop, Ty.sz, beq_self_eq_true, Bool.and_self, and_self, Ty.ofC, AO.isDead, Nat.reduceLT, if_true, Nat.zero_add, Nat.add_zero, ite_true, Nat.le_refl, Bool.false_eq_true, reduceCtorEq, if_false, ite_false, binAV, AO.ren, AV.isCell, fillAV, List.set_cons_zero, List.set_cons_succ, Ty.cells, Ty.flat, Ty.dflt, List.getD_cons_zero, List.getD_cons_succ, Int.reduceToNat, Int.reduceSub, Int.reduceAdd, Int.reduceMul, Int.reduceNeg, forall_eq_or_imp, forall_eq, gdL, id_eq, Nat.lt_irrefl, srcOf, List.replicate_succ, List.replicate_zero, dite_true, List.isEmpty_cons, Option.isSome_some, List.length_append, List.length_singleton, bne_self_eq_false, Bool.not_true, Bool.not_false, conF, asArgs, asArg, asTy, asI1, asB1, asS1, asL1, canons, canon, Fork.true_, Fork.false_, bne, Bool.not_not, List.length_map, pickO, AS.over, TI.bl, bne_iff_ne, AS.over2, without, keys, List.mem_singleton, memOp2, memOp3, absorb, abInt, abBool, abStr, abList, gones, Int.toNat_natCast, List.take_length, subE, List.nodup_cons, List.nodup_nil, not_false_eq_true, Nat.sub_self, conR, asG, asI, asBo, asStr, asIs, asBs, asE4, asI2, asI3, asLL, asLLL, Th_int, Th_Sint, Th_bool, Th_implBases, Th_implGroup, Th_implRangeProof, Th_implSProof, Th_implSTranscript, Th_lawsBases, Th_lawsGroup, Th_lawsRangeProof, Th_lawsSProof, Th_string, G_VerifyIntervalI, c_isValidBases, c_has, c_areExps, c_isRange, c_pow, c_mul, c_verifyRange, c_inv, elemsB_1r, hL])
    | ((with_reducible refine ens_step ?_ (fun hE => ?_)); · ((repeat' with_reducible apply And.intro) <;> first | with_reducible assumption | omega | exact True.intro | with_reducible rfl | (show ByteArray.size _ ≤ _; decide) | (simp; done) | (simp; omega) | rfl))
    | ((with_reducible refine And.intro ?_ ?_); · ((repeat' with_reducible apply And.intro) <;> first | with_reducible assumption | omega | exact True.intro | with_reducible rfl | (show ByteArray.size _ ≤ _; decide) | (simp; done) | (simp; omega) | rfl))
    | ((with_reducible refine Fork.intro (fun h' => ?_) (fun h' => ?_)) <;> (try simp only [Bool.not_eq_true', Bool.not_eq_false', bne] at h') <;> (replace hL := And.intro h' hL) <;> (try simp only [decide_eq_true_eq, decide_eq_false_iff_not, beq_iff_eq, beq_eq_false_iff_ne, ne_eq] at h') <;> (try (have hl9 := l9B_useR h'; obtain ⟨hG, hbb, hq2, hqp, hp3, hpM, hgb⟩ := hl9)) <;> (try (have hec := elemB_bdr (a := c) h')) <;> (try (have hxx : (0 ≤ lo ∧ lo < q) ∧ (0 ≤ hi ∧ hi < q) := ⟨expsB_mem h' (by simp), expsB_mem h' (by simp)⟩; obtain ⟨hlo, hhi⟩ := hxx)) <;> (try (have hok : okRg q n = true := h'; have hru := okRg_use hok; obtain ⟨hn, h2n⟩ := hru; have hp16 := pow16 hn)) <;> (try (have hg1 := M.gpw_lt (p := p) (q := q) (x := g) (e := -lo) hp3; have hg2 := M.gpw_lt (p := p) (q := q) (x := g) (e := hi) hp3; have hg3 := M.gpw_lt (p := p) (q := q) (x := c) (e := -1) hp3; have hm1 := all2r hec hg1; have hm2 := all2r hg2 hg3; have hm3 := all2r hg3 hg2; have hb1 := mulL_bd hp3 [c, M.gpw p q g (-lo)]; have hb2 := mulL_bd hp3 [M.gpw p q g hi, M.gpw p q c (-1)]; have hsw := mulL_sw hg3 hg2; replace hL := And.intro hsw hL)))
    | (with_reducible refine AWp.skipS ?_)
    | ((with_reducible refine AWp.condT rfl ?_))
    | ((with_reducible refine AWp.condF rfl ?_))
    | (with_reducible refine AWp.condB rfl ?_)
    | (with_reducible refine AWp.ret ?_)
    | (with_reducible refine seqQ_n ?_)
    | (with_reducible refine seqQ_ret ?_)
    | (with_reducible refine blkQ_ret ?_)
    | (with_reducible refine blkQ_n ?_)
    | (with_reducible refine seqQ_exit ?_)
    | (with_reducible refine blkQ_exit ?_)
    | (with_reducible refine blkQ_other (by decide) ?_)
    | (with_reducible refine AWp.block ?_)
    | (with_reducible refine AWp.exit ?_)
    | (with_reducible refine AWp.skip ?_)
    | ((with_reducible refine EndsAt_id ?_); (try subst_vars); (try simp only [okVi, hL, List.length_cons, List.length_nil, Nat.zero_add, Nat.reduceAdd, Bool.and_true, Bool.and_false, Bool.true_and, Bool.false_and, Bool.and_self, ↓reduceIte, Bool.false_eq_true, Bool.not_true, Bool.not_false, bne]); refine EndsAt.done [] (by first | exact .inr rfl | exact .inl rfl) rfl rfl ?_ ?_ <;> first | decide | (repeat' (first | rfl | apply And.intro | trivial)))
    | (with_reducible refine AWp.seq ?_)⟩
noncomputable def c_VerifyIntervalS : Con0 := conF [(.pair .int (.pair .int .int)), (.pair .int (.list .int)), .int, .int, .int, .int, (.pair (.list .int) (.list (.pair (.list .int) (.pair (.list .int) (.list .int))))), (.pair (.list .int) (.list (.pair (.list .int) (.pair (.list .int) (.list .int)))))] fun (⟨⟨p, q, g⟩, ⟨bh, bs⟩, c, lo, hi, n, ⟨rb, rp⟩, ⟨tb, tp⟩, _⟩ : (Int × Int × Int) × (Int × List Int) × Int × Int × Int × Int × ((List Int) × (List ((List Int) × (List Int) × (List Int)))) × ((List Int) × (List ((List Int) × (List Int) × (List Int)))) × Unit) => (True, .tup [.lit (.bool (okVi p q g bh bs c lo hi n && (rgV p q g bh (M.mulL p [c, M.gpw p q g (-lo)]) n rb rp && rgV p q g bh (M.mulL p [M.gpw p q g hi, M.gpw p q c (-1)]) n tb tp))), .lit (.bool (okVi p q g bh bs c lo hi n))], [])
noncomputable def G_VerifyIntervalS : List (FuncId × Con) := [(39, mk c_l9Good), (40, mk c_rBits), (41, mk c_gIs), (49, mk c_gExps), (51, mk c_gExp), (50, mk c_gMul), (42, mk c_rIsRange), (52, mk c_gInv)]
theorem G_VerifyIntervalS_ok : ∀ f C, (f, C) ∈ G_VerifyIntervalS → C.ok Try.prog f := by
  intro f C h
  simp only [G_VerifyIntervalS, List.mem_cons, Prod.mk.injEq, List.not_mem_nil, or_false] at h
  rcases h with ⟨rfl, rfl⟩ | ⟨rfl, rfl⟩ | ⟨rfl, rfl⟩ | ⟨rfl, rfl⟩ | ⟨rfl, rfl⟩ | ⟨rfl, rfl⟩ | ⟨rfl, rfl⟩ | ⟨rfl, rfl⟩
  · exact ok_l9Good
  · exact ok_rBits
  · exact ok_gIs
  · exact ok_gExps
  · exact ok_gExp
  · exact ok_gMul
  · exact ok_rIsRange
  · exact ok_gInv
set_option maxRecDepth 100000 in
set_option maxHeartbeats 4000000 in
theorem ok_VerifyIntervalS : (mk c_VerifyIntervalS).ok Try.prog 18 := okF (Θ := Th) (N := 80) (rs := [.tmp 16, .tmp 17]) Th_ok Try.func18 (by kernel_rfl) rfl Try.results18 (by decide) (by kernel_rfl) fun (⟨⟨p, q, g⟩, ⟨bh, bs⟩, c, lo, hi, n, ⟨rb, rp⟩, ⟨tb, tp⟩, _⟩ : (Int × Int × Int) × (Int × List Int) × Int × Int × Int × Int × ((List Int) × (List ((List Int) × (List Int) × (List Int)))) × ((List Int) × (List ((List Int) × (List Int) × (List Int)))) × Unit) => ⟨rfl, rfl, Nat.le_of_ble_eq_true rfl, fun hc w0 => by
  have hL := dmy_eq
  try dsimp only at hc
  try dsimp only
  refine AWp.body rfl ?_
  repeat' first
    | ((with_reducible refine hK _ _ ?_); clear hK K)
    | ((with_reducible refine hK _ _ (by kernel_rfl) ?_); clear hK K)
    | ((with_reducible refine AWp.pS Th_ok G_VerifyIntervalS_ok [0, 1, 2, 3, 4, 5, 6, 7, 8, 9, 14, 15, 16, 17, 18, 19, 44] (by decide) ?_); intro K hK)
    | ((with_reducible refine AWp.dS (by kernel_rfl) Th_ok G_VerifyIntervalS_ok [0, 1, 2, 3, 4, 5, 6, 7, 8, 9, 14, 15, 16, 17, 18, 19, 44] ?_); intro K hK)
    | ((with_reducible refine AWp.pE Th_ok G_VerifyIntervalS_ok [0, 1, 2, 3, 4, 5, 6, 7, 8, 9, 14, 15, 16, 17, 18, 19, 44] (by decide) ?_); intro K hK)
    | ((with_reducible refine AWp.dE (by kernel_rfl) Th_ok G_VerifyIntervalS_ok [0, 1, 2, 3, 4, 5, 6, 7, 8, 9, 14, 15, 16, 17, 18, 19, 44] ?_); intro K hK)
    | ((first | with_reducible refine runF_id ?_ | with_reducible refine stepF_id ?_); simp (maxSteps := 2000000) only [runF, stepF, forkOf, gdOf, List.toList_toArray, stepOp, look, opAV, pureOp, callOp, memOp, AS.ev, AS.get, AS.obj, initS, initFrom, AV.cells, AS.upd, Option.bind_some, Option.bind_none, Option.map_some, Option.map_none, Option.getD_none, Option.getD_some, ↓reduceIte, Nat.reduceEqDiff, Nat.reduceAdd, Nat.reduceMul, Nat.reduceSub, List.nil_append, List.append_nil, List.cons_append, List.map_cons, List.map_nil, true_and, and_true, AS.fin, pick, dedup, List.mem_cons, List.not_mem_nil, or_false, false_or, List.size_toArray, List.length_cons, List.length_nil, loadAV, List.drop_zero, List.drop_succ_cons, List.take_zero, List.take_succ_cons, List.getElem?_cons_zero, List.getElem?_cons_succ, List.head?_cons, List.mapM_cons, List.mapM_nil, Option.bind_eq_bind, Option.pure_def, deeps3, deep3, deep2, deep1, deeps, deeps2, mixInts, AV.plain, mk, mkD, DCon.lift, DCon.runC, ren3, ren2, ren1, numb, List.zipIdx_nil, List.zipIdx_cons, List.all_nil, List.all_cons, Nat.reduceLeDiff, List.range, List.range.loop, Ty.sz, beq_self_eq_true, Bool.and_self, and_self, Ty.ofC, AO.isDead, Nat.reduceLT, if_true, Nat.zero_add, Nat.add_zero, ite_true, Nat.le_refl, Bool.false_eq_true, reduceCtorEq, if_false, ite_false, binAV, AO.ren, AV.isCell, fillAV, List.set_cons_zero, List.set_cons_succ, Ty.cells, Ty.flat, Ty.dflt, List.getD_cons_zero, List.getD_cons_succ, Int.reduceToNat, Int.reduceSub, Int.reduceAdd, Int.reduceMul, Int.reduceNeg, forall_eq_or_imp, forall_eq, gdL, id_eq, Nat.lt_irrefl, srcOf, List.replicate_succ, List.replicate_zero, dite_true, List.isEmpty_cons, Option.isSome_some, List.length_append, List.length_singleton, bne_self_eq_false, Bool.not_true, Bool.not_false, conF, asArgs, asArg, asTy, asI1, asB1, asS1, asL1, canons, canon, Fork.true_, Fork.false_, bne, Bool.not_not, List.length_map, pickO, AS.over, TI.bl, bne_iff_ne, AS.over2, without, keys, List.mem_singleton, memOp2, memOp3, absorb, abInt, abBool, abStr, abList, gones, Int.toNat_natCast, List.take_length, subE, List.nodup_cons, List.nodup_nil, not_false_eq_true, Nat.sub_self, conR, asG, asI, asBo, asStr, asIs, asBs, asE4, asI2, asI3, asLL, asLLL, Th_int, Th_Sint, Th_bool, Th_implBases, Th_implGroup, Th_implRangeProof, Th_implSProof, Th_implSTranscript, Th_lawsBases, Th_lawsGroup, Th_lawsRangeProof, Th_lawsSProof, Th_string, G_VerifyIntervalS, c_l9Good, c_rBits, c_gIs, c_gExps, c_gExp, c_gMul, c_rIsRange, c_gInv, elemsB_1r, hL])
    | ((with_reducible refine ens_step ?_ (fun hE => ?_)); · ((repeat' with_reducible apply And.intro) <;> first | with_reducible assumption | omega | exact True.intro | with_reducible rfl | (show ByteArray.size _ ≤ _; decide) | (simp; done) | (simp; omega) | rfl))
    | ((with_reducible refine And.intro ?_ ?_); · ((repeat' with_reducible apply And.intro) <;> first | with_reducible assumption | omega | exact True.intro | with_reducible rfl | (show ByteArray.size _ ≤ _; decide) | (simp; done) | (simp; omega) | rfl))
    | ((with_reducible refine Fork.intro (fun h' => ?_) (fun h' => ?_)) <;> (try simp only [Bool.not_eq_true', Bool.not_eq_false', bne] at h') <;> (replace hL := And.intro h' hL) <;> (try simp only [decide_eq_true_eq, decide_eq_false_iff_not, beq_iff_eq, beq_eq_false_iff_ne, ne_eq] at h') <;> (try (have hl9 := l9B_useR h'; obtain ⟨hG, hbb, hq2, hqp, hp3, hpM, hgb⟩ := hl9)) <;> (try (have hec := elemB_bdr (a := c) h')) <;> (try (have hxx : (0 ≤ lo ∧ lo < q) ∧ (0 ≤ hi ∧ hi < q) := ⟨expsB_mem h' (by simp), expsB_mem h' (by simp)⟩; obtain ⟨hlo, hhi⟩ := hxx)) <;> (try (have hok : okRg q n = true := h'; have hru := okRg_use hok; obtain ⟨hn, h2n⟩ := hru; have hp16 := pow16 hn)) <;> (try (have hg1 := M.gpw_lt (p := p) (q := q) (x := g) (e := -lo) hp3; have hg2 := M.gpw_lt (p := p) (q := q) (x := g) (e := hi) hp3; have hg3 := M.gpw_lt (p := p) (q := q) (x := c) (e := -1) hp3; have hm1 := all2r hec hg1; have hm2 := all2r hg2 hg3; have hm3 := all2r hg3 hg2; have hb1 := mulL_bd hp3 [c, M.gpw p q g (-lo)]; have hb2 := mulL_bd hp3 [M.gpw p q g hi, M.gpw p q c (-1)]; have hsw := mulL_sw hg3 hg2; replace hL := And.intro hsw hL)))
    | (with_reducible refine AWp.skipS ?_)
    | ((with_reducible refine AWp.condT rfl ?_))
    | ((with_reducible refine AWp.condF rfl ?_))
    | (with_reducible refine AWp.condB rfl ?_)
    | (with_reducible refine AWp.ret ?_)
    | (with_reducible refine seqQ_n ?_)
    | (with_reducible refine seqQ_ret ?_)
    | (with_reducible refine blkQ_ret ?_)
    | (with_reducible refine blkQ_n ?_)
    | (with_reducible refine seqQ_exit ?_)
    | (with_reducible refine blkQ_exit ?_)
    | (with_reducible refine blkQ_other (by decide) ?_)
    | (with_reducible refine AWp.block ?_)
    | (with_reducible refine AWp.exit ?_)
    | (with_reducible refine AWp.skip ?_)
    | ((with_reducible refine EndsAt_id ?_); (try subst_vars); (try simp only [okVi, hL, List.length_cons, List.length_nil, Nat.zero_add, Nat.reduceAdd, Bool.and_true, Bool.and_false, Bool.true_and, Bool.false_and, Bool.and_self, ↓reduceIte, Bool.false_eq_true, Bool.not_true, Bool.not_false, bne]); refine EndsAt.done [] (by first | exact .inr rfl | exact .inl rfl) rfl rfl ?_ ?_ <;> first | decide | (repeat' (first | rfl | apply And.intro | trivial)))
    | (with_reducible refine AWp.seq ?_)⟩
end Go.Proofs.Ytgnnmifpfgpllaa
