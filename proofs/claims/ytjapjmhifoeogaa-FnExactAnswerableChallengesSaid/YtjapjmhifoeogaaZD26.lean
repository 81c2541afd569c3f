import Derived.Test.YtjapjmhifoeogaaZMath3
import Derived.Test.YtjapjmhifoeogaaZAJ
import Derived.Test.YtjapjmhifoeogaaZB3
import Derived.Test.YtjapjmhifoeogaaZN1
import Derived.Test.YtjapjmhifoeogaaZE3
import Derived.Test.YtjapjmhifoeogaaZKit
import Derived.Test.YtjapjmhifoeogaaZB4
import Derived.Test.YtjapjmhifoeogaaZB8
/- Answerable challenges on both sides. -/
set_option linter.all false
set_option linter.unusedVariables false
set_option linter.unusedSimpArgs false
namespace Go.Proofs.Ytjapjmhifoeogaa
open Go.RowKit
noncomputable def cntB (p q g : Int) : Bool := decide (q ≤ 23) && M.goodB p q g
theorem cntB_use {p q g : Int} (h : cntB p q g = true) : q ≤ 23 ∧ M.goodB p q g = true := by unfold cntB at h; simpa using h
noncomputable def hitF (p q a b g1 y1 g2 y2 : Int) (c z : Int) : Bool := (M.gpw p q g1 z == M.mulL p [a, M.gpw p q y1 c]) && (M.gpw p q g2 z == M.mulL p [b, M.gpw p q y2 c])
theorem sim_mul' {p q b y c z a : Int} (hp : 3 ≤ p) (hq : 2 ≤ q) (hy : M.elem p q y) (ha : 0 ≤ a ∧ a < p) : (simC p q b y c z = a) ↔ (M.gpw p q b z = M.mulL p [a, M.gpw p q y c]) := by
  rw [M.mulL_two ha]
  exact M.sim_iff hp hq hy ha z c
theorem hitF_t {p q a b g1 y1 g2 y2 c z : Int} (h1 : M.gpw p q g1 z = M.mulL p [a, M.gpw p q y1 c]) (h2 : M.gpw p q g2 z = M.mulL p [b, M.gpw p q y2 c]) : hitF p q a b g1 y1 g2 y2 c z = true := by simp [hitF, h1, h2]
theorem hitF_1 {p q a b g1 y1 g2 y2 c z : Int} (h1 : ¬ M.gpw p q g1 z = M.mulL p [a, M.gpw p q y1 c]) : hitF p q a b g1 y1 g2 y2 c z = false := by simp [hitF, h1]
theorem hitF_2 {p q a b g1 y1 g2 y2 c z : Int} (h1 : ¬ M.gpw p q g2 z = M.mulL p [b, M.gpw p q y2 c]) : hitF p q a b g1 y1 g2 y2 c z = false := by simp [hitF, h1]
theorem hitF_inj {p q g a b g1 y1 g2 y2 : Int} (hG : M.Grp p q g) (h1 : M.elem p q g1) (hx : g1 ≠ 1) (c : Nat) (j k : Nat) (hj : j < q.toNat) (hk : k < q.toNat) (e1 : hitF p q a b g1 y1 g2 y2 c j = true) (e2 : hitF p q a b g1 y1 g2 y2 c k = true) : j = k := by
  unfold hitF at e1 e2
  simp only [Bool.and_eq_true, beq_iff_eq] at e1 e2
  have := M.gpw_inj hG.p3 hG.pq h1 hx (a := (j : Int)) (b := (k : Int)) ⟨by omega, by omega⟩ ⟨by omega, by omega⟩ (e1.1.trans e2.1.symm)
  omega
/-- the challenges below n that have an answer -/
noncomputable def ansR (p q a b g1 y1 g2 y2 : Int) (n : Nat) : Int := M.cnt (fun c => M.anyB (hitF p q a b g1 y1 g2 y2 c) q.toNat) n
noncomputable def ansS (p q a b g1 y1 g2 y2 : Int) (n : Nat) : Int := M.cnt2 (hitF p q a b g1 y1 g2 y2) q.toNat n
noncomputable def ansZ (p q a b g1 y1 g2 y2 : Int) (n m : Nat) : Int := ansS p q a b g1 y1 g2 y2 n + M.cnt (hitF p q a b g1 y1 g2 y2 n) m
section
variable {p q g a b g1 y1 g2 y2 : Int} {n m : Nat}
theorem ansR_bd : 0 ≤ ansR p q a b g1 y1 g2 y2 n ∧ ansR p q a b g1 y1 g2 y2 n ≤ n := M.cnt_lt n
theorem ansR_t (hm : m < q.toNat) (h : hitF p q a b g1 y1 g2 y2 n m = true) : ansR p q a b g1 y1 g2 y2 (n + 1) = ansR p q a b g1 y1 g2 y2 n + 1 := by
  rw [ansR, M.cnt, if_pos ((M.anyB_true _).2 ⟨m, hm, h⟩), ansR]
theorem ansR_f (h : ∀ k : Nat, k < q.toNat → hitF p q a b g1 y1 g2 y2 n k = false) : ansR p q a b g1 y1 g2 y2 (n + 1) = ansR p q a b g1 y1 g2 y2 n := by
  have : M.anyB (hitF p q a b g1 y1 g2 y2 n) q.toNat = false := by
    rw [Bool.eq_false_iff]
    intro hh
    obtain ⟨k, hk, h2⟩ := (M.anyB_true _).1 hh
    rw [h k hk] at h2; cases h2
  rw [ansR, M.cnt, if_neg (by rw [this]; decide), ansR, Int.add_zero]
theorem ansS_bd (hq : q ≤ 23) (h0 : 0 ≤ q) (hn : (n : Int) ≤ q) : 0 ≤ ansS p q a b g1 y1 g2 y2 n ∧ ansS p q a b g1 y1 g2 y2 n ≤ 529 := by
  have := M.cnt2_lt (f := hitF p q a b g1 y1 g2 y2) (m := q.toNat) n
  unfold ansS
  have h2 : (n : Int) * (q.toNat : Nat) ≤ 23 * 23 := Int.mul_le_mul (by omega) (by omega) (by omega) (by omega)
  omega
theorem ansZ_bd (hq : q ≤ 23) (h0 : 0 ≤ q) (hn : (n : Int) ≤ q) (hm : (m : Int) ≤ q) : 0 ≤ ansZ p q a b g1 y1 g2 y2 n m ∧ ansZ p q a b g1 y1 g2 y2 n m ≤ 600 := by
  have h1 := ansS_bd (p := p) (a := a) (b := b) (g1 := g1) (y1 := y1) (g2 := g2) (y2 := y2) hq h0 hn
  have h2 := M.cnt_lt (f := hitF p q a b g1 y1 g2 y2 n) m
  unfold ansZ; omega
theorem ansZ_0 : ansZ p q a b g1 y1 g2 y2 n 0 = ansS p q a b g1 y1 g2 y2 n := by simp [ansZ, M.cnt]
theorem ansZ_t (h : hitF p q a b g1 y1 g2 y2 n m = true) : ansZ p q a b g1 y1 g2 y2 n (m + 1) = ansZ p q a b g1 y1 g2 y2 n m + 1 := by
  rw [ansZ, ansZ, M.cnt, if_pos h, Int.add_assoc]
theorem ansZ_f (h : hitF p q a b g1 y1 g2 y2 n m = false) : ansZ p q a b g1 y1 g2 y2 n (m + 1) = ansZ p q a b g1 y1 g2 y2 n m := by
  rw [ansZ, ansZ, M.cnt, if_neg (by rw [h]; decide), Int.add_zero]
theorem ansZ_q : ansS p q a b g1 y1 g2 y2 (n + 1) = ansZ p q a b g1 y1 g2 y2 n q.toNat := by rw [ansZ, ansS, M.cnt2, ansS]
theorem ans_eq (hG : M.Grp p q g) (h1 : M.elem p q g1) (hx : g1 ≠ 1) : ansS p q a b g1 y1 g2 y2 q.toNat = ansR p q a b g1 y1 g2 y2 q.toNat :=
  M.cnt2_any _ fun c _ j k => hitF_inj hG h1 hx c j k
theorem no_hit_next {f : Int → Bool} (h : ∀ k : Nat, k < m → f k = false) (h2 : f m = false) : ∀ k : Nat, k < m + 1 → f k = false := fun k hk => by
  rcases Nat.lt_or_ge k m with h3 | h3
  · exact h k h3
  · obtain rfl : k = m := by omega
    exact h2
end
noncomputable def okAn (p q g g1 y1 g2 y2 a b : Int) : Bool := cntB p q g && elemsB p q [g1, y1, g2, y2] && elemsB p q [a, b] && !(g1 == 1) && !(g2 == 1)
noncomputable def ansV (p q g g1 y1 g2 y2 a b : Int) : Int := if okAn p q g g1 y1 g2 y2 a b = true then ansR p q a b g1 y1 g2 y2 q.toNat else 0
noncomputable def c_isCounted : Con0 := conF [(.pair .int (.pair .int .int))] fun (⟨⟨p, q, g⟩, _⟩ : (Int × Int × Int) × Unit) => (True, .lit (.bool (cntB p q g)), [])
noncomputable def G_isCounted : List (FuncId × Con) := [(72, mk c_isValidGroup)]
theorem G_isCounted_ok : ∀ f C, (f, C) ∈ G_isCounted → C.ok Try.prog f := by
  intro f C h
  simp only [G_isCounted, List.mem_cons, Prod.mk.injEq, List.not_mem_nil, or_false] at h
  obtain ⟨rfl, rfl⟩ := h
  exact ok_isValidGroup
set_option maxRecDepth 100000 in
set_option maxHeartbeats 4000000 in
theorem ok_isCounted : (mk c_isCounted).ok Try.prog 65 := okF (Θ := Th) (N := 10) (rs := [.tmp 2]) Th_ok Try.func65 (by kernel_rfl) rfl Try.results65 (by decide) (by kernel_rfl) fun (⟨⟨p, q, g⟩, _⟩ : (Int × Int × Int) × Unit) => ⟨rfl, rfl, Nat.le_of_ble_eq_true rfl, fun hc w0 => by
  have hL := dmy_eq
  try dsimp only at hc
  try dsimp only
  refine AWp.body rfl ?_
  repeat' first
    | ((with_reducible refine hK _ _ ?_); clear hK K)
    | ((with_reducible refine hK _ _ (by kernel_rfl) ?_); clear hK K)
    | ((with_reducible refine AWp.pS Th_ok G_isCounted_ok [0, 1, 2] (by decide) ?_); intro K hK)
    | ((with_reducible refine AWp.dS (by kernel_rfl) Th_ok G_isCounted_ok [0, 1, 2] ?_); intro K hK)
    | ((with_reducible refine AWp.pE Th_ok G_isCounted_ok [0, 1, 2] (by decide) ?_); intro K hK)
    | ((with_reducible refine AWp.dE (by kernel_rfl) Th_ok G_isCounted_ok [0, 1, 2] ?_); intro K hK)
    | ((first | with_reducible refine runF_id ?_ | with_reducible refine stepF_id ?_); simp (maxSteps := 2000000) only [runF, stepF, forkOf, gdOf, List.toList_toArray, stepOp, look, opAV, pureOp, callOp, memOp, AS.ev, AS.get, AS.obj, initS, initFrom, AV.cells, AS.upd, Option.bind_some, Option.bind_none, Option.map_some, Option.map_none, Option.getD_none, Option.getD_some, ↓reduceIte, Nat.reduceEqDiff, Nat.reduceAdd, Nat.reduceMul, Nat.reduceSub, List.nil_append, List.append_nil, List.cons_append, List.map_cons, List.map_nil, true_and, and_true, AS.fin, pick, dedup, List.mem_cons, List.not_mem_nil, or_false, false_or, List.size_toArray, List.length_cons, List.length_nil, loadAV, List.drop_zero, List.drop_succ_cons, List.take_zero, List.take_succ_cons, List.getElem?_cons_zero, List.getElem?_cons_succ, List.head?_cons, List.mapM_cons, List.mapM_nil, Option.bind_eq_bind, Option.pure_def, deeps3, deep3, deep2, deep1, deeps, deeps2, mixInts, AV.plain, mk, mkD, DCon.lift, DCon.runC, ren3, ren2, ren1, numb, List.zipIdx_nil, List.zipIdx_cons, List.all_nil, List.all_cons, Nat.reduceLeDiff, List.range, List.range.loop, Ty.sz, beq_self_eq_true, Bool.and_self, and_self, Ty.ofC, AO.isDead, Nat.reduceLT, if_true, Nat.zero_add, Nat.add_zero, ite_true, Nat.le_refl, Bool.false_eq_true, reduceCtorEq, if_false, ite_false, binAV, AO.ren, AV.isCell, fillAV, List.set_cons_zero, List.set_cons_succ, Ty.cells, Ty.flat, Ty.dflt, List.getD_cons_zero, List.getD_cons_succ, Int.reduceToNat, Int.reduceSub, Int.reduceAdd, Int.reduceMul, Int.reduceNeg, forall_eq_or_imp, forall_eq, gdL, id_eq, Nat.lt_irrefl, srcOf, List.replicate_succ, List.replicate_zero, dite_true, List.isEmpty_cons, Option.isSome_some, List.length_append, List.length_singleton, bne_self_eq_false, Bool.not_true, Bool.not_false, conF, asArgs, asArg, asTy, asI1, asB1, asS1, asL1, canons, canon, Fork.true_, Fork.false_, bne, Bool.not_not, List.length_map, pickO, AS.over, TI.bl, bne_iff_ne, AS.over2, without, keys, List.mem_singleton, memOp2, memOp3, absorb, abInt, abBool, abStr, abList, gones, Int.toNat_natCast, List.take_length, subE, List.nodup_cons, List.nodup_nil, not_false_eq_true, Nat.sub_self, conR, asG, asI, asBo, asStr, asIs, asBs, asE4, asI2, asI3, asLL, asLLL, Th_int, Th_bool, Th_implGroup, Th_lawsGroup, Th_string, G_isCounted, c_isValidGroup, hL])
    | ((with_reducible refine ens_step ?_ (fun hE => ?_)); · ((repeat' with_reducible apply And.intro) <;> first | with_reducible assumption | omega | exact True.intro | with_reducible rfl | (show ByteArray.size _ ≤ _; decide) | (simp; done) | (simp; omega) | rfl))
    | ((with_reducible refine And.intro ?_ ?_); · ((repeat' with_reducible apply And.intro) <;> first | with_reducible assumption | omega | exact True.intro | with_reducible rfl | (show ByteArray.size _ ≤ _; decide) | (simp; done) | (simp; omega) | rfl))
    | ((with_reducible refine Fork.intro (fun h' => ?_) (fun h' => ?_)) <;> (try simp only [Bool.not_eq_true', Bool.not_eq_false', bne] at h') <;> (replace hL := And.intro h' hL) <;> (try simp only [decide_eq_true_eq, decide_eq_false_iff_not, beq_iff_eq, beq_eq_false_iff_ne, ne_eq] at h'))
    | (with_reducible refine AWp.skipS ?_)
    | ((with_reducible refine AWp.condT rfl ?_))
    | ((with_reducible refine AWp.condF rfl ?_))
    | (with_reducible refine AWp.condB rfl ?_)
    | (with_reducible refine AWp.ret ?_)
    | (with_reducible refine seqQ_n ?_)
    | (with_reducible refine seqQ_ret ?_)
    | (with_reducible refine blkQ_ret ?_)
    | (with_reducible refine blkQ_n ?_)
    | (with_reducible refine seqQ_exit ?_)
    | (with_reducible refine blkQ_exit ?_)
    | (with_reducible refine blkQ_other (by decide) ?_)
    | (with_reducible refine AWp.block ?_)
    | (with_reducible refine AWp.exit ?_)
    | (with_reducible refine AWp.skip ?_)
    | ((with_reducible refine EndsAt_id ?_); (try subst_vars); (try simp only [cntB, hL, List.length_cons, List.length_nil, Nat.zero_add, Nat.reduceAdd, Bool.and_true, Bool.and_false, Bool.true_and, Bool.false_and, Bool.and_self, ↓reduceIte, Bool.false_eq_true, Bool.not_true, Bool.not_false, bne]); refine EndsAt.done [] (by first | exact .inr rfl | exact .inl rfl) rfl rfl ?_ ?_ <;> first | decide | (repeat' (first | rfl | apply And.intro | trivial)))
    | (with_reducible refine AWp.seq ?_)⟩
noncomputable def c_AnswerableChallengesI : Con0 := conF [(.pair .int (.pair .int .int)), (.pair .int (.pair .int (.pair .int .int))), .int, .int] fun (⟨⟨p, q, g⟩, ⟨g1, y1, g2, y2⟩, a, b, _⟩ : (Int × Int × Int) × (Int × Int × Int × Int) × Int × Int × Unit) => (True, .tup [.lit (.int .i64 (ansV p q g g1 y1 g2 y2 a b)), .lit (.bool (okAn p q g g1 y1 g2 y2 a b))], [])
noncomputable def G_AnswerableChallengesI : List (FuncId × Con) := [(65, mk c_isCounted), (66, mk c_hasEqual), (67, mk c_hasAll), (68, mk c_simulated)]
theorem G_AnswerableChallengesI_ok : ∀ f C, (f, C) ∈ G_AnswerableChallengesI → C.ok Try.prog f := by
  intro f C h
  simp only [G_AnswerableChallengesI, List.mem_cons, Prod.mk.injEq, List.not_mem_nil, or_false] at h
  rcases h with ⟨rfl, rfl⟩ | ⟨rfl, rfl⟩ | ⟨rfl, rfl⟩ | ⟨rfl, rfl⟩
  · exact ok_isCounted
  · exact ok_hasEqual
  · exact ok_hasAll
  · exact ok_simulated
set_option maxRecDepth 100000 in
set_option maxHeartbeats 4000000 in
theorem ok_AnswerableChallengesI : (mk c_AnswerableChallengesI).ok Try.prog 18 := okF (Θ := Th) (N := 73) (rs := [.tmp 8, .tmp 9]) Th_ok Try.func18 (by kernel_rfl) rfl Try.results18 (by decide) (by kernel_rfl) fun (⟨⟨p, q, g⟩, ⟨g1, y1, g2, y2⟩, a, b, _⟩ : (Int × Int × Int) × (Int × Int × Int × Int) × Int × Int × Unit) => ⟨rfl, rfl, Nat.le_of_ble_eq_true rfl, fun hc w0 => by
  have hL := dmy_eq
  try dsimp only at hc
  try dsimp only
  refine AWp.body rfl ?_
  repeat' first
    | ((with_reducible refine hK _ _ ?_); clear hK K)
    | ((with_reducible refine hK _ _ (by kernel_rfl) ?_); clear hK K)
    | ((with_reducible refine AWp.pS Th_ok G_AnswerableChallengesI_ok [0, 1, 2, 3, 4, 5, 8, 9, 10, 11, 12, 13, 14, 41, 43, 44, 45, 48, 49, 50, 67] (by decide) ?_); intro K hK)
    | ((with_reducible refine AWp.dS (by kernel_rfl) Th_ok G_AnswerableChallengesI_ok [0, 1, 2, 3, 4, 5, 8, 9, 10, 11, 12, 13, 14, 41, 43, 44, 45, 48, 49, 50, 67] ?_); intro K hK)
    | ((with_reducible refine AWp.pE Th_ok G_AnswerableChallengesI_ok [0, 1, 2, 3, 4, 5, 8, 9, 10, 11, 12, 13, 14, 41, 43, 44, 45, 48, 49, 50, 67] (by decide) ?_); intro K hK)
    | ((with_reducible refine AWp.dE (by kernel_rfl) Th_ok G_AnswerableChallengesI_ok [0, 1, 2, 3, 4, 5, 8, 9, 10, 11, 12, 13, 14, 41, 43, 44, 45, 48, 49, 50, 67] ?_); intro K hK)
    | ((first | with_reducible refine runF_id ?_ | with_reducible refine stepF_id ?_); simp (maxSteps := 2000000) only [runF, stepF, forkOf, gdOf, List.toList_toArray, stepOp, look, opAV, pureOp, callOp, memOp, AS.ev, AS.get, AS.obj, initS, initFrom, AV.cells, AS.upd, Option.bind_some, Option.bind_none, Option.map_some, Option.map_none, Option.getD_none, Option.getD_some, ↓reduceIte, Nat.reduceEqDiff, Nat.reduceAdd, Nat.reduceMul, Nat.reduceSub, List.nil_append, List.append_nil, List.cons_append, List.map_cons, List.map_nil, true_and, and_true, AS.fin, pick, dedup, List.mem_cons, List.not_mem_nil, or_false, false_or, List.size_toArray, List.length_cons, List.length_nil, loadAV, List.drop_zero, List.drop_succ_cons, List.take_zero, List.take_succ_cons, List.getElem?_cons_zero, List.getElem?_cons_succ, List.head?_cons, List.mapM_cons, List.mapM_nil, Option.bind_eq_bind, Option.pure_def, deeps3, deep3, deep2, deep1, deeps, deeps2, mixInts, AV.plain, mk, mkD, DCon.lift, DCon.runC, ren3, ren2, ren1, numb, List.zipIdx_nil, List.zipIdx_cons, List.all_nil, List.all_cons, Nat.reduceLeDiff, List.range, List.range.loop, Ty.sz, beq_self_eq_true, Bool.and_self, and_self, Ty.ofC, AO.isDead, Nat.reduceLT, if_true, Nat.zero_add, Nat.add_zero, ite_true, Nat.le_refl, Bool.false_eq_true, reduceCtorEq, if_false, ite_false, binAV, AO.ren, AV.isCell, fillAV, List.set_cons_zero, List.set_cons_succ, Ty.cells, Ty.flat, Ty.dflt, List.getD_cons_zero, List.getD_cons_succ, Int.reduceToNat, Int.reduceSub, Int.reduceAdd, Int.reduceMul, Int.reduceNeg, forall_eq_or_imp, forall_eq, gdL, id_eq, Nat.lt_irrefl, srcOf, List.replicate_succ, List.replicate_zero, dite_true, List.isEmpty_cons, Option.isSome_some, List.length_append, List.length_singleton, bne_self_eq_false, Bool.not_true, Bool.not_false, conF, asArgs, asArg, asTy, asI1, asB1, asS1, asL1, canons, canon, Fork.true_, Fork.false_, bne, Bool.not_not, List.length_map, pickO, AS.over, TI.bl, bne_iff_ne, AS.over2, without, keys, List.mem_singleton, memOp2, memOp3, absorb, abInt, abBool, abStr, abList, gones, Int.toNat_natCast, List.take_length, subE, List.nodup_cons, List.nodup_nil, not_false_eq_true, Nat.sub_self, conR, asG, asI, asBo, asStr, asIs, asBs, asE4, asI2, asI3, asLL, asLLL, Th_int, Th_Sint, Th_bool, Th_implBases, Th_implDealing, Th_implEqualLog, Th_implGroup, Th_implSDealing, Th_lawsDealing, Th_lawsEqualLog, Th_lawsGroup, Th_lawsSDealing, G_AnswerableChallengesI, c_isCounted, c_hasEqual, c_hasAll, c_simulated, hL])
    | ((with_reducible refine ens_step ?_ (fun hE => ?_)); · ((repeat' with_reducible apply And.intro) <;> first | with_reducible assumption | omega | exact True.intro | with_reducible rfl | (show ByteArray.size _ ≤ _; decide) | (simp; done) | (simp; omega) | rfl))
    | ((with_reducible refine And.intro ?_ ?_); · ((repeat' with_reducible apply And.intro) <;> first | with_reducible assumption | omega | exact True.intro | with_reducible rfl | (show ByteArray.size _ ≤ _; decide) | (simp; done) | (simp; omega) | rfl))
    | ((with_reducible refine Fork.intro (fun h' => ?_) (fun h' => ?_)) <;> (try simp only [Bool.not_eq_true', Bool.not_eq_false', bne] at h') <;> (replace hL := And.intro h' hL) <;> (try simp only [decide_eq_true_eq, decide_eq_false_iff_not, beq_iff_eq, beq_eq_false_iff_ne, ne_eq] at h') <;> (try (have hcb := cntB_use h'; obtain ⟨hq23, hgd⟩ := hcb; have hG := M.goodB_of hgd; have hq2 := hG.q2; have hqp := hG.qp; have hp3 := hG.p3; have hpM := hG.pM)) <;> (try (have he1 := elemsB_mem (l := [g1, y1, g2, y2]) h' (x := g1) (by simp); have he2 := elemsB_mem (l := [g1, y1, g2, y2]) h' (x := y1) (by simp); have he3 := elemsB_mem (l := [g1, y1, g2, y2]) h' (x := g2) (by simp); have he4 := elemsB_mem (l := [g1, y1, g2, y2]) h' (x := y2) (by simp); have hd1 := elem_bd he1; have hd2 := elem_bd he2; have hd3 := elem_bd he3; have hd4 := elem_bd he4)) <;> (try (have hda := elem_bd (elemsB_mem (l := [a, b]) h' (x := a) (by simp)); have hdb := elem_bd (elemsB_mem (l := [a, b]) h' (x := b) (by simp)))) <;> (try (have hg1 : g1 ≠ 1 := h'; have hae := ans_eq (a := a) (b := b) (y1 := y1) (g2 := g2) (y2 := y2) hG he1 hg1)) <;> (try (have hs1 : M.gpw p q g1 m = M.mulL p [a, M.gpw p q y1 n] := (sim_mul' hp3 hq2 he2 hda).1 h')) <;> (try (have hsf := hitF_1 (a := a) (b := b) (g2 := g2) (y2 := y2) (fun hh => h' ((sim_mul' (z := (m : Int)) (c := (n : Int)) (b := g1) hp3 hq2 he2 hda).2 hh)); have hnn := no_hit_next hy2 hsf)) <;> (try (have hst := hitF_t (z := (m : Int)) (c := (n : Int)) hs1 ((sim_mul' hp3 hq2 he4 hdb).1 h'); have han := ansR_t (m := m) (by omega) hst)) <;> (try (have hsf := hitF_2 (a := a) (b := b) (g1 := g1) (y1 := y1) (fun hh => h' ((sim_mul' (z := (m : Int)) (c := (n : Int)) (b := g2) hp3 hq2 he4 hdb).2 hh)); have hnn := no_hit_next hy2 hsf)) <;> (try (have hme : m = q.toNat := (by omega); subst hme; have han := ansR_f hy2)) <;> (try (have hne : n = q.toNat := (by omega); subst hne)))
    | (with_reducible refine AWp.skipS ?_)
    | ((with_reducible refine AWp.condT rfl ?_))
    | ((with_reducible refine AWp.condF rfl ?_))
    | (with_reducible refine AWp.condB rfl ?_)
    | (with_reducible refine AWp.ret ?_)
    | (with_reducible refine seqQ_n ?_)
    | (with_reducible refine seqQ_ret ?_)
    | (with_reducible refine blkQ_ret ?_)
    | (with_reducible refine blkQ_n ?_)
    | (with_reducible refine seqQ_exit ?_)
    | (with_reducible refine blkQ_exit ?_)
    | (with_reducible refine blkQ_other (by decide) ?_)
    | (with_reducible refine AWp.block ?_)
    | (with_reducible refine AWp.exit ?_)
    | (with_reducible refine AWp.skip ?_)
    | ((with_reducible refine loop_id ?_); refine AWp.loopAt 5 rfl ?_; refine AWp.loopO [10, 11, 12, 13, 14, 44, 45, 46, 47, 48, 49, 50, 51, 52, 53, 54, 55, 56, 57, 58, 59, 60, 61, 62, 63, 64, 65, 66, 67, 68, 69, 70, 71] (fun n => [(44, .lit (.int .i64 (n : Nat))), (10, .lit (.int .i64 (ansR p q a b g1 y1 g2 y2 n)))]) (fun n => []) (fun n => n ≤ q.toNat) (fun n => q.toNat - n) 0 (by omega) (by refine Sub.auto (by first | exact frok0 | assumption) rfl rfl ?_ ?_ <;> (try simp only [subE, AS.over2, without, keys, look, List.cons_append, List.nil_append, List.append_nil, List.mem_cons, List.not_mem_nil, or_false, or_true, true_or, false_or, Nat.reduceEqDiff, ↓reduceIte, Option.some.injEq, AV.lit.injEq, Value.int.injEq, Value.bool.injEq, AV.own.injEq, AO.row.injEq, AO.box.injEq, List.cons.injEq, AV.agg.injEq, AV.sl.injEq, true_and, and_true, and_self, heq_eq_eq, List.length_nil, List.length_cons, List.map_nil, List.take_zero, Int.natCast_add, Int.cast_ofNat_Int, Int.natCast_zero, List.length_append, List.length_map, List.length_take, Nat.zero_add]) <;> ((repeat' apply And.intro) <;> first | rfl | (simp [ansR, M.cnt]; done))) (fun n hn_5 L5 hLoop5 => ?_); have hrb := ansR_bd (p := p) (q := q) (a := a) (b := b) (g1 := g1) (y1 := y1) (g2 := g2) (y2 := y2) (n := n))
    | ((with_reducible refine seqQ_f ?_); refine hLoop5 (n + 1) _ (by omega) (by omega) ?_; (refine Sub.auto (by first | exact frok0 | assumption) rfl rfl ?_ ?_ <;> (try simp only [subE, AS.over2, without, keys, look, List.cons_append, List.nil_append, List.append_nil, List.mem_cons, List.not_mem_nil, or_false, or_true, true_or, false_or, Nat.reduceEqDiff, ↓reduceIte, Option.some.injEq, AV.lit.injEq, Value.int.injEq, Value.bool.injEq, AV.own.injEq, AO.row.injEq, AO.box.injEq, List.cons.injEq, AV.agg.injEq, AV.sl.injEq, true_and, and_true, and_self, heq_eq_eq, List.length_nil, List.length_cons, List.map_nil, List.take_zero, Int.natCast_add, Int.cast_ofNat_Int, Int.natCast_zero, List.length_append, List.length_map, List.length_take, Nat.zero_add]) <;> ((repeat' apply And.intro) <;> first | rfl | omega | (simp; omega))))
    | ((with_reducible refine loop_id ?_); refine AWp.loopAt 8 rfl ?_; refine AWp.loopO [10, 12, 13, 14, 49, 50, 51, 52, 53, 54, 55, 56, 57, 58, 59, 60, 61, 62, 63, 64, 65, 66, 67, 68, 69, 70] (fun m => [(49, .lit (.int .i64 (m : Nat))), (10, .lit (.int .i64 (ansR p q a b g1 y1 g2 y2 n)))]) (fun m => []) (fun m => m ≤ q.toNat ∧ ∀ k : Nat, k < m → hitF p q a b g1 y1 g2 y2 n k = false) (fun m => q.toNat - m) 0 (by exact ⟨by omega, fun k hk => by omega⟩) (by refine Sub.auto (by first | exact frok0 | assumption) rfl rfl ?_ ?_ <;> (try simp only [subE, AS.over2, without, keys, look, List.cons_append, List.nil_append, List.append_nil, List.mem_cons, List.not_mem_nil, or_false, or_true, true_or, false_or, Nat.reduceEqDiff, ↓reduceIte, Option.some.injEq, AV.lit.injEq, Value.int.injEq, Value.bool.injEq, AV.own.injEq, AO.row.injEq, AO.box.injEq, List.cons.injEq, AV.agg.injEq, AV.sl.injEq, true_and, and_true, and_self, heq_eq_eq, List.length_nil, List.length_cons, List.map_nil, List.take_zero, Int.natCast_add, Int.cast_ofNat_Int, Int.natCast_zero, List.length_append, List.length_map, List.length_take, Nat.zero_add]) <;> ((repeat' apply And.intro) <;> first | rfl | (simp; done))) (fun m hm_8 L8 hLoop8 => ?_); obtain ⟨hy1, hy2⟩ := hm_8)
    | ((with_reducible refine seqQ_f ?_); refine hLoop8 (m + 1) _ (by exact ⟨by omega, hnn⟩) (by omega) ?_; (refine Sub.auto (by first | exact frok0 | assumption) rfl rfl ?_ ?_ <;> (try simp only [subE, AS.over2, without, keys, look, List.cons_append, List.nil_append, List.append_nil, List.mem_cons, List.not_mem_nil, or_false, or_true, true_or, false_or, Nat.reduceEqDiff, ↓reduceIte, Option.some.injEq, AV.lit.injEq, Value.int.injEq, Value.bool.injEq, AV.own.injEq, AO.row.injEq, AO.box.injEq, List.cons.injEq, AV.agg.injEq, AV.sl.injEq, true_and, and_true, and_self, heq_eq_eq, List.length_nil, List.length_cons, List.map_nil, List.take_zero, Int.natCast_add, Int.cast_ofNat_Int, Int.natCast_zero, List.length_append, List.length_map, List.length_take, Nat.zero_add]) <;> ((repeat' apply And.intro) <;> first | rfl | omega | (simp; omega))))
    | ((with_reducible refine EndsAt_id ?_); (try subst_vars); (try simp only [ansV, okAn, hL, List.length_cons, List.length_nil, Nat.zero_add, Nat.reduceAdd, Bool.and_true, Bool.and_false, Bool.true_and, Bool.false_and, Bool.and_self, ↓reduceIte, Bool.false_eq_true, Bool.not_true, Bool.not_false, bne]); refine EndsAt.done [] (by first | exact .inr rfl | exact .inl rfl) rfl rfl ?_ ?_ <;> first | decide | (repeat' (first | rfl | apply And.intro | trivial)))
    | (with_reducible refine AWp.seq ?_)⟩
noncomputable def c_AnswerableChallengesS : Con0 := conF [(.pair .int (.pair .int .int)), (.pair .int (.pair .int (.pair .int .int))), .int, .int] fun (⟨⟨p, q, g⟩, ⟨g1, y1, g2, y2⟩, a, b, _⟩ : (Int × Int × Int) × (Int × Int × Int × Int) × Int × Int × Unit) => (True, .tup [.lit (.int .i64 (ansV p q g g1 y1 g2 y2 a b)), .lit (.bool (okAn p q g g1 y1 g2 y2 a b))], [])
noncomputable def G_AnswerableChallengesS : List (FuncId × Con) := [(60, mk c_l2Good), (61, mk c_sElements), (62, mk c_gIs), (63, mk c_gExp), (64, mk c_gMul)]
theorem G_AnswerableChallengesS_ok : ∀ f C, (f, C) ∈ G_AnswerableChallengesS → C.ok Try.prog f := by
  intro f C h
  simp only [G_AnswerableChallengesS, List.mem_cons, Prod.mk.injEq, List.not_mem_nil, or_false] at h
  rcases h with ⟨rfl, rfl⟩ | ⟨rfl, rfl⟩ | ⟨rfl, rfl⟩ | ⟨rfl, rfl⟩ | ⟨rfl, rfl⟩
  · exact ok_l2Good
  · exact ok_sElements
  · exact ok_gIs
  · exact ok_gExp
  · exact ok_gMul
set_option maxRecDepth 100000 in
set_option maxHeartbeats 4000000 in
theorem ok_AnswerableChallengesS : (mk c_AnswerableChallengesS).ok Try.prog 15 := okF (Θ := Th) (N := 92) (rs := [.tmp 8, .tmp 9]) Th_ok Try.func15 (by kernel_rfl) rfl Try.results15 (by decide) (by kernel_rfl) fun (⟨⟨p, q, g⟩, ⟨g1, y1, g2, y2⟩, a, b, _⟩ : (Int × Int × Int) × (Int × Int × Int × Int) × Int × Int × Unit) => ⟨rfl, rfl, Nat.le_of_ble_eq_true rfl, fun hc w0 => by
  have hL := dmy_eq
  try dsimp only at hc
  try dsimp only
  refine AWp.body rfl ?_
  repeat' first
    | ((with_reducible refine hK _ _ ?_); clear hK K)
    | ((with_reducible refine hK _ _ (by kernel_rfl) ?_); clear hK K)
    | ((with_reducible refine AWp.pS Th_ok G_AnswerableChallengesS_ok [0, 1, 2, 3, 4, 5, 8, 9, 10, 11, 12, 44, 48, 54, 88] (by decide) ?_); intro K hK)
    | ((with_reducible refine AWp.dS (by kernel_rfl) Th_ok G_AnswerableChallengesS_ok [0, 1, 2, 3, 4, 5, 8, 9, 10, 11, 12, 44, 48, 54, 88] ?_); intro K hK)
    | ((with_reducible refine AWp.pE Th_ok G_AnswerableChallengesS_ok [0, 1, 2, 3, 4, 5, 8, 9, 10, 11, 12, 44, 48, 54, 88] (by decide) ?_); intro K hK)
    | ((with_reducible refine AWp.dE (by kernel_rfl) Th_ok G_AnswerableChallengesS_ok [0, 1, 2, 3, 4, 5, 8, 9, 10, 11, 12, 44, 48, 54, 88] ?_); intro K hK)
    | ((first | with_reducible refine runF_id ?_ | with_reducible refine stepF_id ?_); simp (maxSteps := 2000000) only [runF, stepF, forkOf, gdOf, List.toList_toArray, stepOp, look, opAV, pureOp, callOp, memOp, AS.ev, AS.get, AS.obj, initS, initFrom, AV.cells, AS.upd, Option.bind_some, Option.bind_none, Option.map_some, Option.map_none, Option.getD_none, Option.getD_some, ↓reduceIte, Nat.reduceEqDiff, Nat.reduceAdd, Nat.reduceMul, Nat.reduceSub, List.nil_append, List.append_nil, List.cons_append, List.map_cons, List.map_nil, true_and, and_true, AS.fin, pick, dedup, List.mem_cons, List.not_mem_nil, or_false, false_or, List.size_toArray, List.length_cons, List.length_nil, loadAV, List.drop_zero, List.drop_succ_cons, List.take_zero, List.take_succ_cons, List.getElem?_cons_zero, List.getElem?_cons_succ, List.head?_cons, List.mapM_cons, List.mapM_nil, Option.bind_eq_bind, Option.pure_def, deeps3, deep3, deep2, deep1, deeps, deeps2, mixInts, AV.plain, mk, mkD, DCon.lift, DCon.runC, ren3, ren2, ren1, numb, List.zipIdx_nil, List.zipIdx_cons, List.all_nil, List.all_cons, Nat.reduceLeDiff, List.range, List.range.loop, Ty.sz, beq_self_eq_true, Bool.and_self, and_self, Ty.ofC, AO.isDead, Nat.reduceLT, if_true, Nat.zero_add, Nat.add_zero, ite_true, Nat.le_refl, Bool.false_eq_true, reduceCtorEq, if_false, ite_false, binAV, AO.ren, AV.isCell, fillAV, List.set_cons_zero, List.set_cons_succ, Ty.cells, Ty.flat, Ty.dflt, List.getD_cons_zero, List.getD_cons_succ, Int.reduceToNat, Int.reduceSub, Int.reduceAdd, Int.reduceMul, Int.reduceNeg, forall_eq_or_imp, forall_eq, gdL, id_eq, Nat.lt_irrefl, srcOf, List.replicate_succ, List.replicate_zero, dite_true, List.isEmpty_cons, Option.isSome_some, List.length_append, List.length_singleton, bne_self_eq_false, Bool.not_true, Bool.not_false, conF, asArgs, asArg, asTy, asI1, asB1, asS1, asL1, canons, canon, Fork.true_, Fork.false_, bne, Bool.not_not, List.length_map, pickO, AS.over, TI.bl, bne_iff_ne, AS.over2, without, keys, List.mem_singleton, memOp2, memOp3, absorb, abInt, abBool, abStr, abList, gones, Int.toNat_natCast, List.take_length, subE, List.nodup_cons, List.nodup_nil, not_false_eq_true, Nat.sub_self, conR, asG, asI, asBo, asStr, asIs, asBs, asE4, asI2, asI3, asLL, asLLL, Th_int, Th_Sint, Th_bool, Th_implBases, Th_implEqualLog, Th_implGroup, Th_implSDealing, Th_implSharedKey, Th_lawsEqualLog, Th_lawsGroup, Th_lawsSDealing, Th_lawsSharedKey, G_AnswerableChallengesS, c_l2Good, c_sElements, c_gIs, c_gExp, c_gMul, hL])
    | ((with_reducible refine ens_step ?_ (fun hE => ?_)); · ((repeat' with_reducible apply And.intro) <;> first | with_reducible assumption | omega | exact True.intro | with_reducible rfl | exact (M.gpw_lt (by omega)).1 | exact (M.gpw_lt (by omega)).2 | (show ByteArray.size _ ≤ _; decide) | (simp; done) | (simp; omega) | rfl))
    | ((with_reducible refine And.intro ?_ ?_); · ((repeat' with_reducible apply And.intro) <;> first | with_reducible assumption | omega | exact True.intro | with_reducible rfl | exact (M.gpw_lt (by omega)).1 | exact (M.gpw_lt (by omega)).2 | (show ByteArray.size _ ≤ _; decide) | (simp; done) | (simp; omega) | rfl))
    | ((with_reducible refine Fork.intro (fun h' => ?_) (fun h' => ?_)) <;> (try simp only [Bool.not_eq_true', Bool.not_eq_false', bne] at h') <;> (replace hL := And.intro h' hL) <;> (try simp only [decide_eq_true_eq, decide_eq_false_iff_not, beq_iff_eq, beq_eq_false_iff_ne, ne_eq] at h') <;> (try (have hgd : M.goodB p q g = true := h'; have hG := M.goodB_of hgd; have hq2 := hG.q2; have hqp := hG.qp; have hp3 := hG.p3; have hpM := hG.pM)) <;> (try (have hq23 : q ≤ 23 := (by omega); have hqd : decide (q ≤ 23) = true := decide_eq_true hq23; replace hL := And.intro hqd hL)) <;> (try (have hqd : decide (q ≤ 23) = false := decide_eq_false (by omega); replace hL := And.intro hqd hL)) <;> (try (have he1 := elemsB_mem (l := [g1, y1, g2, y2]) h' (x := g1) (by simp); have he2 := elemsB_mem (l := [g1, y1, g2, y2]) h' (x := y1) (by simp); have he3 := elemsB_mem (l := [g1, y1, g2, y2]) h' (x := g2) (by simp); have he4 := elemsB_mem (l := [g1, y1, g2, y2]) h' (x := y2) (by simp); have hd1 := elem_bd he1; have hd2 := elem_bd he2; have hd3 := elem_bd he3; have hd4 := elem_bd he4)) <;> (try (have hda := elem_bd (elemsB_mem (l := [a, b]) h' (x := a) (by simp)); have hdb := elem_bd (elemsB_mem (l := [a, b]) h' (x := b) (by simp)))) <;> (try (have hg1 : g1 ≠ 1 := h'; have hae := ans_eq (a := a) (b := b) (y1 := y1) (g2 := g2) (y2 := y2) hG he1 hg1)) <;> (try (have hs1 : M.gpw p q g1 m = M.mulL p [a, M.gpw p q y1 n] := h')) <;> (try (have hsf := hitF_1 (z := (m : Int)) (c := (n : Int)) (a := a) (b := b) (g1 := g1) (y1 := y1) (g2 := g2) (y2 := y2) h'; have hzn := ansZ_f hsf)) <;> (try (have hst := hitF_t (z := (m : Int)) (c := (n : Int)) hs1 (h' : M.gpw p q g2 m = M.mulL p [b, M.gpw p q y2 n]); have hzn := ansZ_t hst)) <;> (try (have hsf := hitF_2 (z := (m : Int)) (c := (n : Int)) (a := a) (b := b) (g1 := g1) (y1 := y1) (g2 := g2) (y2 := y2) h'; have hzn := ansZ_f hsf)) <;> (try (have hme : m = q.toNat := (by omega); subst hme; have hzq := ansZ_q (p := p) (q := q) (a := a) (b := b) (g1 := g1) (y1 := y1) (g2 := g2) (y2 := y2) (n := n))) <;> (try (have hne : n = q.toNat := (by omega); subst hne; replace hL := And.intro hae hL)))
    | (with_reducible refine AWp.skipS ?_)
    | ((with_reducible refine AWp.condT rfl ?_))
    | ((with_reducible refine AWp.condF rfl ?_))
    | (with_reducible refine AWp.condB rfl ?_)
    | (with_reducible refine AWp.ret ?_)
    | (with_reducible refine seqQ_n ?_)
    | (with_reducible refine seqQ_ret ?_)
    | (with_reducible refine blkQ_ret ?_)
    | (with_reducible refine blkQ_n ?_)
    | (with_reducible refine seqQ_exit ?_)
    | (with_reducible refine blkQ_exit ?_)
    | (with_reducible refine blkQ_other (by decide) ?_)
    | (with_reducible refine AWp.block ?_)
    | (with_reducible refine AWp.exit ?_)
    | (with_reducible refine AWp.skip ?_)
    | ((with_reducible refine loop_id ?_); refine AWp.loopAt 5 rfl ?_; refine AWp.loopO [10, 11, 12, 45, 46, 47, 48, 49, 50, 51, 52, 53, 54, 55, 56, 57, 58, 59, 60, 61, 62, 63, 64, 65, 66, 67, 68, 69, 70, 71, 72, 73, 74, 75, 76, 77, 78, 79, 80, 81, 82, 83, 84, 85, 86, 87, 88, 89, 90] (fun n => [(11, .lit (.int .i64 (n : Nat))), (10, .lit (.int .i64 (ansS p q a b g1 y1 g2 y2 n)))]) (fun n => []) (fun n => n ≤ q.toNat) (fun n => q.toNat - n) 0 (by omega) (by refine Sub.auto (by first | exact frok0 | assumption) rfl rfl ?_ ?_ <;> (try simp only [subE, AS.over2, without, keys, look, List.cons_append, List.nil_append, List.append_nil, List.mem_cons, List.not_mem_nil, or_false, or_true, true_or, false_or, Nat.reduceEqDiff, ↓reduceIte, Option.some.injEq, AV.lit.injEq, Value.int.injEq, Value.bool.injEq, AV.own.injEq, AO.row.injEq, AO.box.injEq, List.cons.injEq, AV.agg.injEq, AV.sl.injEq, true_and, and_true, and_self, heq_eq_eq, List.length_nil, List.length_cons, List.map_nil, List.take_zero, Int.natCast_add, Int.cast_ofNat_Int, Int.natCast_zero, List.length_append, List.length_map, List.length_take, Nat.zero_add]) <;> ((repeat' apply And.intro) <;> first | rfl | (simp [ansS, M.cnt2]; done))) (fun n hn_5 L5 hLoop5 => ?_); have hrb := ansS_bd (p := p) (a := a) (b := b) (g1 := g1) (y1 := y1) (g2 := g2) (y2 := y2) (n := n) hq23 (by omega) (by omega))
    | ((with_reducible refine seqQ_f ?_); refine hLoop5 (n + 1) _ (by omega) (by omega) ?_; (refine Sub.auto (by first | exact frok0 | assumption) rfl rfl ?_ ?_ <;> (try simp only [subE, AS.over2, without, keys, look, List.cons_append, List.nil_append, List.append_nil, List.mem_cons, List.not_mem_nil, or_false, or_true, true_or, false_or, Nat.reduceEqDiff, ↓reduceIte, Option.some.injEq, AV.lit.injEq, Value.int.injEq, Value.bool.injEq, AV.own.injEq, AO.row.injEq, AO.box.injEq, List.cons.injEq, AV.agg.injEq, AV.sl.injEq, true_and, and_true, and_self, heq_eq_eq, List.length_nil, List.length_cons, List.map_nil, List.take_zero, Int.natCast_add, Int.cast_ofNat_Int, Int.natCast_zero, List.length_append, List.length_map, List.length_take, Nat.zero_add]) <;> ((repeat' apply And.intro) <;> first | rfl | omega | (simp; omega))))
    | ((with_reducible refine loop_id ?_); refine AWp.loopAt 8 rfl ?_; refine AWp.loopO [10, 12, 51, 52, 53, 54, 55, 56, 57, 58, 59, 60, 61, 62, 63, 64, 65, 66, 67, 68, 69, 70, 71, 72, 73, 74, 75, 76, 77, 78, 79, 80, 81, 82, 83, 84, 85, 86, 87, 88, 89, 90] (fun m => [(12, .lit (.int .i64 (m : Nat))), (10, .lit (.int .i64 (ansZ p q a b g1 y1 g2 y2 n m)))]) (fun m => []) (fun m => m ≤ q.toNat) (fun m => q.toNat - m) 0 (by omega) (by refine Sub.auto (by first | exact frok0 | assumption) rfl rfl ?_ ?_ <;> (try simp only [subE, AS.over2, without, keys, look, List.cons_append, List.nil_append, List.append_nil, List.mem_cons, List.not_mem_nil, or_false, or_true, true_or, false_or, Nat.reduceEqDiff, ↓reduceIte, Option.some.injEq, AV.lit.injEq, Value.int.injEq, Value.bool.injEq, AV.own.injEq, AO.row.injEq, AO.box.injEq, List.cons.injEq, AV.agg.injEq, AV.sl.injEq, true_and, and_true, and_self, heq_eq_eq, List.length_nil, List.length_cons, List.map_nil, List.take_zero, Int.natCast_add, Int.cast_ofNat_Int, Int.natCast_zero, List.length_append, List.length_map, List.length_take, Nat.zero_add]) <;> ((repeat' apply And.intro) <;> first | rfl | exact ansZ_0.symm | (simp; done))) (fun m hm_8 L8 hLoop8 => ?_); have hzb := ansZ_bd (p := p) (a := a) (b := b) (g1 := g1) (y1 := y1) (g2 := g2) (y2 := y2) (n := n) (m := m) hq23 (by omega) (by omega) (by omega))
    | ((with_reducible refine seqQ_f ?_); refine hLoop8 (m + 1) _ (by omega) (by omega) ?_; (refine Sub.auto (by first | exact frok0 | assumption) rfl rfl ?_ ?_ <;> (try simp only [subE, AS.over2, without, keys, look, List.cons_append, List.nil_append, List.append_nil, List.mem_cons, List.not_mem_nil, or_false, or_true, true_or, false_or, Nat.reduceEqDiff, ↓reduceIte, Option.some.injEq, AV.lit.injEq, Value.int.injEq, Value.bool.injEq, AV.own.injEq, AO.row.injEq, AO.box.injEq, List.cons.injEq, AV.agg.injEq, AV.sl.injEq, true_and, and_true, and_self, heq_eq_eq, List.length_nil, List.length_cons, List.map_nil, List.take_zero, Int.natCast_add, Int.cast_ofNat_Int, Int.natCast_zero, List.length_append, List.length_map, List.length_take, Nat.zero_add]) <;> ((repeat' apply And.intro) <;> first | rfl | omega | (simp; omega))))
    | ((with_reducible refine EndsAt_id ?_); (try subst_vars); (try simp only [ansV, okAn, cntB, hL, List.length_cons, List.length_nil, Nat.zero_add, Nat.reduceAdd, Bool.and_true, Bool.and_false, Bool.true_and, Bool.false_and, Bool.and_self, ↓reduceIte, Bool.false_eq_true, Bool.not_true, Bool.not_false, bne]); refine EndsAt.done [] (by first | exact .inr rfl | exact .inl rfl) rfl rfl ?_ ?_ <;> first | decide | (repeat' (first | rfl | apply And.intro | trivial)))
    | (with_reducible refine AWp.seq ?_)⟩
end Go.Proofs.Ytjapjmhifoeogaa
