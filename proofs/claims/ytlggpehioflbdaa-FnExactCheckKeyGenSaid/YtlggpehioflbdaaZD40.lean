import Derived.Test.YtlggpehioflbdaaZD30
import Derived.Test.YtlggpehioflbdaaZAN
/- Qualified dealers on both sides. -/
set_option linter.all false
set_option linter.unusedVariables false
set_option linter.unusedSimpArgs false
namespace Go.Proofs.Ytlggpehioflbdaa
open Go.RowKit
theorem badL_at {p q g : Int} {cs ss : List Int} {k : Nat} (h : k < (badL p q g cs ss).length) : 1 ≤ (badL p q g cs ss).getD k 0 ∧ (badL p q g cs ss).getD k 0 ≤ ss.length := by
  have hm : (badL p q g cs ss).getD k 0 ∈ badF (shrB p q g cs) ss 0 := getD_in 0 h
  have := badF_mem (f := shrB p q g cs) ss 0 _ hm
  omega
/-- the first k answers fit -/
def ansK (p q g : Int) (cs bad own : List Int) (k : Nat) : Bool := (List.range k).all fun j => shrB p q g cs (bad.getD j 0) (own.getD j 0)
theorem ansK_0 {p q g : Int} {cs bad own : List Int} : ansK p q g cs bad own 0 = true := rfl
theorem ansK_t {p q g : Int} {cs bad own : List Int} {k : Nat} (h : ansK p q g cs bad own k = true) (h2 : shrB p q g cs (bad.getD k 0) (own.getD k 0) = true) : ansK p q g cs bad own (k + 1) = true := by
  unfold ansK at *
  rw [List.range_succ, List.all_append, h]; simpa using h2
theorem ansK_f {p q g : Int} {cs bad own : List Int} {k m : Nat} (hk : k < m) (h2 : shrB p q g cs (bad.getD k 0) (own.getD k 0) = false) : ansK p q g cs bad own m = false := by
  unfold ansK
  rw [Bool.eq_false_iff]
  intro h
  have := List.all_eq_true.1 h k (List.mem_range.2 hk)
  rw [h2] at this; cases this
theorem ansK_at {p q g : Int} {cs bad own : List Int} {k m : Nat} (h : ansK p q g cs bad own m = true) (hk : k < m) : shrB p q g cs (bad.getD k 0) (own.getD k 0) = true := List.all_eq_true.1 h k (List.mem_range.2 hk)
/-- a dealer is qualified -/
def qlB (p q g : Int) (cs ss own : List Int) : Bool := !(decide ((cs.length : Int) ≤ (badL p q g cs ss).length)) && ((own.length : Int) == (badL p q g cs ss).length) && ansK p q g cs (badL p q g cs ss) own (badL p q g cs ss).length
theorem qlB_use {p q g : Int} {cs ss own : List Int} (h : qlB p q g cs ss own = true) : ((badL p q g cs ss).length < cs.length ∧ own.length = (badL p q g cs ss).length) ∧ ansK p q g cs (badL p q g cs ss) own (badL p q g cs ss).length = true := by
  simp only [qlB, Bool.and_eq_true, Bool.not_eq_true', decide_eq_false_iff_not, beq_iff_eq] at h
  exact ⟨by omega, h.2⟩
theorem qlB_mk {p q g : Int} {cs ss own : List Int} (h1 : (badL p q g cs ss).length < cs.length) (h2 : own.length = (badL p q g cs ss).length) (h3 : ansK p q g cs (badL p q g cs ss) own (badL p q g cs ss).length = true) : qlB p q g cs ss own = true := by
  simp only [qlB, Bool.and_eq_true, Bool.not_eq_true', decide_eq_false_iff_not, beq_iff_eq]
  exact ⟨by omega, h3⟩
/-- shares with the answers -/
def mndF : List Int → List Int → List Int → List Int
  | i :: b, a :: o, s => mndF b o (s.set (i - 1).toNat a)
  | _, _, s => s
theorem mndF_at {bad own s : List Int} {k : Nat} (h1 : k < bad.length) (h2 : k < own.length) : mndF (bad.drop k) (own.drop k) s = mndF (bad.drop (k + 1)) (own.drop (k + 1)) (s.set (bad.getD k 0 - 1).toNat (own.getD k 0)) := by
  rw [drop_at 0 h1, drop_at 0 h2]; rfl
theorem mndF_end {bad o s : List Int} : mndF (bad.drop bad.length) o s = s := by rw [List.drop_length]; cases o <;> rfl
theorem mndF_ok {q : Int} : ∀ (bad own s : List Int), (∀ x ∈ own, 0 ≤ x ∧ x < q) → (∀ x ∈ s, 0 ≤ x ∧ x < q) → (mndF bad own s).length = s.length ∧ ∀ x ∈ mndF bad own s, 0 ≤ x ∧ x < q
  | i :: b, a :: o, s, ho, hs => by
    have := mndF_ok b o (s.set (i - 1).toNat a) (fun x hx => ho x (by simp [hx])) (set_bd hs (ho a (by simp)))
    rw [List.length_set] at this
    exact this
  | [], _, s, _, hs => ⟨rfl, hs⟩
  | _ :: _, [], s, _, hs => ⟨rfl, hs⟩
theorem mndF_len : ∀ (bad own s : List Int), (mndF bad own s).length = s.length
  | i :: b, a :: o, s => by
    have := mndF_len b o (s.set (i - 1).toNat a)
    rw [List.length_set] at this
    exact this
  | [], _, s => rfl
  | _ :: _, [], s => rfl
/-- mended shares -/
def mndL (p q g : Int) (cs ss own : List Int) : List Int := mndF (badL p q g cs ss) own ss
theorem mndL_len {p q g : Int} {cs ss own : List Int} : (mndL p q g cs ss own).length = ss.length := mndF_len _ _ _
noncomputable def c_isQualified : Con0 := conF [(.pair .int (.pair .int .int)), (.pair (.list .int) (.list .int)), (.list .int)] fun (⟨⟨p, q, g⟩, ⟨cs, ss⟩, own, _⟩ : (Int × Int × Int) × (List Int × List Int) × (List Int) × Unit) => (M.Grp p q g ∧ ((∀ c ∈ cs, 0 ≤ c ∧ c < p) ∧ (∀ s ∈ ss, 0 ≤ s ∧ s < q) ∧ ss.length ≤ 7 ∧ cs.length ≤ 7) ∧ ∀ x ∈ own, 0 ≤ x ∧ x < q, .lit (.bool (qlB p q g cs ss own)), [])
noncomputable def G_isQualified : List (FuncId × Con) := [(85, mk c_bad), (141, mk c_isShare)]
theorem G_isQualified_ok : ∀ f C, (f, C) ∈ G_isQualified → C.ok Try.prog f := by
  intro f C h
  simp only [G_isQualified, List.mem_cons, Prod.mk.injEq, List.not_mem_nil, or_false] at h
  rcases h with ⟨rfl, rfl⟩ | ⟨rfl, rfl⟩
  · exact ok_bad
  · exact ok_isShare
set_option maxRecDepth 100000 in
set_option maxHeartbeats 4000000 in
theorem ok_isQualified : (mk c_isQualified).ok Try.prog 145 := okF (Θ := Th) (N := 44) (rs := [.tmp 6]) Th_ok Try.func145 (by kernel_rfl) rfl Try.results145 (by decide) (by kernel_rfl) fun (⟨⟨p, q, g⟩, ⟨cs, ss⟩, own, _⟩ : (Int × Int × Int) × (List Int × List Int) × (List Int) × Unit) => ⟨rfl, rfl, Nat.le_of_ble_eq_true rfl, fun hc w0 => by
  have hL := dmy_eq
  try dsimp only at hc
  try dsimp only
  obtain ⟨hG, ⟨hcs, hss, hsl, hcl⟩, how⟩ := hc
  have hq2 := hG.q2
  have hqp := hG.qp
  have hp3 := hG.p3
  have hpM := hG.pM
  have hgb : 0 ≤ g ∧ g < p := ⟨by have := hG.g2; omega, hG.gp⟩
  have hbl := badL_le p q g cs ss
  refine AWp.body rfl ?_
  repeat' first
    | ((with_reducible refine hK _ _ ?_); clear hK K)
    | ((with_reducible refine hK _ _ (by kernel_rfl) ?_); clear hK K)
    | ((with_reducible refine AWp.pS Th_ok G_isQualified_ok [0, 1, 2, 3, 4, 6, 7, 8, 9, 25, 26, 27, 28, 29, 42] (by decide) ?_); intro K hK)
    | ((with_reducible refine AWp.dS (by kernel_rfl) Th_ok G_isQualified_ok [0, 1, 2, 3, 4, 6, 7, 8, 9, 25, 26, 27, 28, 29, 42] ?_); intro K hK)
    | ((with_reducible refine AWp.pE Th_ok G_isQualified_ok [0, 1, 2, 3, 4, 6, 7, 8, 9, 25, 26, 27, 28, 29, 42] (by decide) ?_); intro K hK)
    | ((with_reducible refine AWp.dE (by kernel_rfl) Th_ok G_isQualified_ok [0, 1, 2, 3, 4, 6, 7, 8, 9, 25, 26, 27, 28, 29, 42] ?_); intro K hK)
    | ((first | with_reducible refine runF_id ?_ | with_reducible refine stepF_id ?_); simp (maxSteps := 2000000) only [runF, stepF, forkOf, gdOf, List.toList_toArray, stepOp, look, opAV, pureOp, callOp, memOp, AS.ev, AS.get, AS.obj, initS, initFrom, AV.cells, AS.upd, Option.bind_some, Option.bind_none, Option.map_some, Option.map_none, Option.getD_none, Option.getD_some, ↓reduceIte, Nat.reduceEqDiff, Nat.reduceAdd, Nat.reduceMul, Nat.reduceSub, List.nil_append, List.append_nil, List.cons_append, List.map_cons, List.map_nil, true_and, and_true, AS.fin, pick, dedup, List.mem_cons, List.not_mem_nil, or_false, false_or, List.size_toArray, List.length_cons, List.length_nil, loadAV, List.drop_zero, List.drop_succ_cons, List.take_zero, List.take_succ_cons, List.getElem?_cons_zero, List.getElem?_cons_succ, List.head?_cons, List.mapM_cons, List.mapM_nil, Option.bind_eq_bind, Option.pure_def, deeps3, deep3, deep2, deep1, deeps, deeps2, mixInts, AV.plain, mk, mkD, DCon.lift, DCon.runC, ren3, ren2, ren1, numb, List.zipIdx_nil, List.zipIdx_cons, List.all_nil, List.all_cons, Nat.reduceLeDiff, List.range, List.range.loop, Ty.sz, beq_self_eq_true, Bool.and_self, and_self, Ty.ofC, AO.isDead, Nat.reduceLT, if_true, Nat.zero_add, Nat.add_zero, ite_true, Nat.le_refl, Bool.false_eq_true, reduceCtorEq, if_false, ite_false, binAV, AO.ren, AV.isCell, fillAV, List.set_cons_zero, List.set_cons_succ, Ty.cells, Ty.flat, Ty.dflt, List.getD_cons_zero, List.getD_cons_succ, Int.reduceToNat, Int.reduceSub, Int.reduceAdd, Int.reduceMul, Int.reduceNeg, forall_eq_or_imp, forall_eq, gdL, id_eq, Nat.lt_irrefl, srcOf, List.replicate_succ, List.replicate_zero, dite_true, List.isEmpty_cons, Option.isSome_some, List.length_append, List.length_singleton, bne_self_eq_false, Bool.not_true, Bool.not_false, conF, asArgs, asArg, asTy, asI1, asB1, asS1, asL1, canons, canon, Fork.true_, Fork.false_, bne, Bool.not_not, List.length_map, pickO, AS.over, TI.bl, bne_iff_ne, AS.over2, without, keys, List.mem_singleton, memOp2, memOp3, absorb, abInt, abBool, abStr, abList, gones, Int.toNat_natCast, List.take_length, subE, List.nodup_cons, List.nodup_nil, not_false_eq_true, Nat.sub_self, conR, asG, asI, asBo, asStr, asIs, asBs, asE4, asI2, asI3, asLL, asLLL, Th_int, Th_SSint, Th_Sint, Th_bool, Th_implDealing, Th_implGroup, Th_implSDealing, Th_lawsGroup, Th_lawsSDealing, Th_string, G_isQualified, c_bad, c_isShare, hL])
    | ((with_reducible refine ens_step ?_ (fun hE => ?_)); · ((repeat' with_reducible apply And.intro) <;> first | with_reducible assumption | omega | exact True.intro | with_reducible rfl | (show ByteArray.size _ ≤ _; decide) | (simp; done) | (simp; omega) | rfl))
    | ((with_reducible refine And.intro ?_ ?_); · ((repeat' with_reducible apply And.intro) <;> first | with_reducible assumption | omega | exact True.intro | with_reducible rfl | (show ByteArray.size _ ≤ _; decide) | (simp; done) | (simp; omega) | rfl))
    | ((with_reducible refine Fork.intro (fun h' => ?_) (fun h' => ?_)) <;> (try simp only [Bool.not_eq_true', Bool.not_eq_false', bne] at h') <;> (replace hL := And.intro h' hL) <;> (try simp only [decide_eq_true_eq, decide_eq_false_iff_not, beq_iff_eq, beq_eq_false_iff_ne, ne_eq] at h') <;> (try (have hbk := badL_at (p := p) (q := q) (g := g) (cs := cs) (ss := ss) (k := k) (by omega); have hok := getD_bd' how (k := k) (by omega))) <;> (try (have hat := ansK_t hz2 hL.1)) <;> (try (have haf := ansK_f (p := p) (q := q) (g := g) (cs := cs) (bad := (badL p q g cs ss)) (own := own) (k := k) (m := (badL p q g cs ss).length) (by omega) hL.1; replace hL := And.intro haf hL)) <;> (try (have hke : k = (badL p q g cs ss).length := (by omega); subst hke; replace hL := And.intro hz2 hL)))
    | (with_reducible refine AWp.skipS ?_)
    | ((with_reducible refine AWp.condT rfl ?_))
    | ((with_reducible refine AWp.condF rfl ?_))
    | (with_reducible refine AWp.condB rfl ?_)
    | (with_reducible refine AWp.ret ?_)
    | (with_reducible refine seqQ_n ?_)
    | (with_reducible refine seqQ_ret ?_)
    | (with_reducible refine blkQ_ret ?_)
    | (with_reducible refine blkQ_n ?_)
    | (with_reducible refine seqQ_exit ?_)
    | (with_reducible refine blkQ_exit ?_)
    | (with_reducible refine blkQ_other (by decide) ?_)
    | (with_reducible refine AWp.block ?_)
    | (with_reducible refine AWp.exit ?_)
    | (with_reducible refine AWp.skip ?_)
    | ((with_reducible refine loop_id ?_); refine AWp.loopAt 5 rfl ?_; refine AWp.loopO [6, 8, 9, 28, 29, 30, 31, 32, 33, 34, 35, 36, 37, 38, 39, 40, 41, 42, 43] (fun k => [(28, .lit (.int .i64 (k : Nat)))]) (fun k => []) (fun k => k ≤ (badL p q g cs ss).length ∧ ansK p q g cs (badL p q g cs ss) own k = true) (fun k => (badL p q g cs ss).length - k) 0 (by exact ⟨by omega, ansK_0⟩) (by refine Sub.auto (by first | exact frok0 | assumption) rfl rfl ?_ ?_ <;> (try simp only [subE, AS.over2, without, keys, look, List.cons_append, List.nil_append, List.append_nil, List.mem_cons, List.not_mem_nil, or_false, or_true, true_or, false_or, Nat.reduceEqDiff, ↓reduceIte, Option.some.injEq, AV.lit.injEq, Value.int.injEq, Value.bool.injEq, AV.own.injEq, AO.row.injEq, AO.box.injEq, List.cons.injEq, AV.agg.injEq, AV.sl.injEq, true_and, and_true, and_self, heq_eq_eq, List.length_nil, List.length_cons, List.map_nil, List.take_zero, Int.natCast_add, Int.cast_ofNat_Int, Int.natCast_zero, List.length_append, List.length_map, List.length_take, Nat.zero_add]) <;> (simp)) (fun k hk_5 L5 hLoop5 => ?_); obtain ⟨hz1, hz2⟩ := hk_5)
    | ((with_reducible refine seqQ_f ?_); refine hLoop5 (k + 1) _ (by exact ⟨by omega, hat⟩) (by omega) ?_; (refine Sub.auto (by first | exact frok0 | assumption) rfl rfl ?_ ?_ <;> (try simp only [subE, AS.over2, without, keys, look, List.cons_append, List.nil_append, List.append_nil, List.mem_cons, List.not_mem_nil, or_false, or_true, true_or, false_or, Nat.reduceEqDiff, ↓reduceIte, Option.some.injEq, AV.lit.injEq, Value.int.injEq, Value.bool.injEq, AV.own.injEq, AO.row.injEq, AO.box.injEq, List.cons.injEq, AV.agg.injEq, AV.sl.injEq, true_and, and_true, and_self, heq_eq_eq, List.length_nil, List.length_cons, List.map_nil, List.take_zero, Int.natCast_add, Int.cast_ofNat_Int, Int.natCast_zero, List.length_append, List.length_map, List.length_take, Nat.zero_add]) <;> (omega)))
    | ((with_reducible refine EndsAt_id ?_); (try subst_vars); (try simp only [qlB, hL, List.length_cons, List.length_nil, Nat.zero_add, Nat.reduceAdd, Bool.and_true, Bool.and_false, Bool.true_and, Bool.false_and, Bool.and_self, ↓reduceIte, Bool.false_eq_true, Bool.not_true, Bool.not_false, bne]); refine EndsAt.done [] (by first | exact .inr rfl | exact .inl rfl) rfl rfl ?_ ?_ <;> first | decide | (repeat' (first | rfl | apply And.intro | trivial)))
    | (with_reducible refine AWp.seq ?_)⟩
noncomputable def c_kgT : Con0 := conF [(.pair .int (.pair .int .int)), (.pair (.list .int) (.list .int)), (.list .int)] fun (⟨⟨p, q, g⟩, ⟨cs, ss⟩, own, _⟩ : (Int × Int × Int) × (List Int × List Int) × (List Int) × Unit) => ((M.Grp p q g ∧ ((∀ c ∈ cs, 0 ≤ c ∧ c < p) ∧ (∀ s ∈ ss, 0 ≤ s ∧ s < q) ∧ ss.length ≤ 7 ∧ cs.length ≤ 7) ∧ ∀ x ∈ own, 0 ≤ x ∧ x < q) ∧ qlB p q g cs ss own = true, .tup [.agg [.own 0 cs.length, .own 1 ss.length], .lit (.bool true)], [.row 3 .int cs, .row 3 .int (mndL p q g cs ss own)])
noncomputable def G_kgT : List (FuncId × Con) := [(83, mk c_sBad), (182, mk c_l1Own), (136, mk c_sFits)]
theorem G_kgT_ok : ∀ f C, (f, C) ∈ G_kgT → C.ok Try.prog f := by
  intro f C h
  simp only [G_kgT, List.mem_cons, Prod.mk.injEq, List.not_mem_nil, or_false] at h
  rcases h with ⟨rfl, rfl⟩ | ⟨rfl, rfl⟩ | ⟨rfl, rfl⟩
  · exact ok_sBad
  · exact ok_l1Own
  · exact ok_sFits
set_option maxRecDepth 100000 in
set_option maxHeartbeats 4000000 in
theorem ok_kgT : (mk c_kgT).ok Try.prog 142 := okF (Θ := Th) (N := 65) (rs := [.cell 6 81, .tmp 7]) Th_ok Try.func142 (by kernel_rfl) rfl Try.results142 (by decide) (by kernel_rfl) fun (⟨⟨p, q, g⟩, ⟨cs, ss⟩, own, _⟩ : (Int × Int × Int) × (List Int × List Int) × (List Int) × Unit) => ⟨rfl, rfl, Nat.le_of_ble_eq_true rfl, fun hc w0 => by
  have hL := dmy_eq
  try dsimp only at hc
  try dsimp only
  obtain ⟨hc, hql⟩ := hc
  obtain ⟨hG, ⟨hcs, hss, hsl, hcl⟩, how⟩ := hc
  have hq2 := hG.q2
  have hqp := hG.qp
  have hp3 := hG.p3
  have hpM := hG.pM
  have hgb : 0 ≤ g ∧ g < p := ⟨by have := hG.g2; omega, hG.gp⟩
  have hbl := badL_le p q g cs ss
  obtain ⟨⟨hq1, hq2⟩, hq3⟩ := qlB_use hql
  refine AWp.body rfl ?_
  repeat' first
    | ((with_reducible refine hK _ _ ?_); clear hK K)
    | ((with_reducible refine hK _ _ (by kernel_rfl) ?_); clear hK K)
    | ((with_reducible refine AWp.pS Th_ok G_kgT_ok [0, 1, 2, 3, 4, 6, 7, 8, 9, 10, 11, 27, 36, 37, 38, 39, 52] (by decide) ?_); intro K hK)
    | ((with_reducible refine AWp.dS (by kernel_rfl) Th_ok G_kgT_ok [0, 1, 2, 3, 4, 6, 7, 8, 9, 10, 11, 27, 36, 37, 38, 39, 52] ?_); intro K hK)
    | ((with_reducible refine AWp.pE Th_ok G_kgT_ok [0, 1, 2, 3, 4, 6, 7, 8, 9, 10, 11, 27, 36, 37, 38, 39, 52] (by decide) ?_); intro K hK)
    | ((with_reducible refine AWp.dE (by kernel_rfl) Th_ok G_kgT_ok [0, 1, 2, 3, 4, 6, 7, 8, 9, 10, 11, 27, 36, 37, 38, 39, 52] ?_); intro K hK)
    | ((first | with_reducible refine runF_id ?_ | with_reducible refine stepF_id ?_); simp (maxSteps := 2000000) only [runF, stepF, forkOf, gdOf, List.toList_toArray, stepOp, look, opAV, pureOp, callOp, memOp, AS.ev, AS.get, AS.obj, initS, initFrom, AV.cells, AS.upd, Option.bind_some, Option.bind_none, Option.map_some, Option.map_none, Option.getD_none, Option.getD_some, ↓reduceIte, Nat.reduceEqDiff, Nat.reduceAdd, Nat.reduceMul, Nat.reduceSub, List.nil_append, List.append_nil, List.cons_append, List.map_cons, List.map_nil, true_and, and_true, AS.fin, pick, dedup, List.mem_cons, List.not_mem_nil, or_false, false_or, List.size_toArray, List.length_cons, List.length_nil, loadAV, List.drop_zero, List.drop_succ_cons, List.take_zero, List.take_succ_cons, List.getElem?_cons_zero, List.getElem?_cons_succ, List.head?_cons, List.mapM_cons, List.mapM_nil, Option.bind_eq_bind, Option.pure_def, deeps3, deep3, deep2, deep1, deeps, deeps2, mixInts, AV.plain, mk, mkD, DCon.lift, DCon.runC, ren3, ren2, ren1, numb, List.zipIdx_nil, List.zipIdx_cons, List.all_nil, List.all_cons, Nat.reduceLeDiff, List.range, List.range.loop, Ty.sz, beq_self_eq_true, Bool.and_self, and_self, Ty.ofC, AO.isDead, Nat.reduceLT, if_true, Nat.zero_add, Nat.add_zero, ite_true, Nat.le_refl, Bool.false_eq_true, reduceCtorEq, if_false, ite_false, binAV, AO.ren, AV.isCell, fillAV, List.set_cons_zero, List.set_cons_succ, Ty.cells, Ty.flat, Ty.dflt, List.getD_cons_zero, List.getD_cons_succ, Int.reduceToNat, Int.reduceSub, Int.reduceAdd, Int.reduceMul, Int.reduceNeg, forall_eq_or_imp, forall_eq, gdL, id_eq, Nat.lt_irrefl, srcOf, List.replicate_succ, List.replicate_zero, dite_true, List.isEmpty_cons, Option.isSome_some, List.length_append, List.length_singleton, bne_self_eq_false, Bool.not_true, Bool.not_false, conF, asArgs, asArg, asTy, asI1, asB1, asS1, asL1, canons, canon, Fork.true_, Fork.false_, bne, Bool.not_not, List.length_map, pickO, AS.over, TI.bl, bne_iff_ne, AS.over2, without, keys, List.mem_singleton, memOp2, memOp3, absorb, abInt, abBool, abStr, abList, gones, Int.toNat_natCast, List.take_length, subE, List.nodup_cons, List.nodup_nil, not_false_eq_true, Nat.sub_self, conR, asG, asI, asBo, asStr, asIs, asBs, asE4, asI2, asI3, asLL, asLLL, Th_int, Th_SSint, Th_Sint, Th_bool, Th_implDealing, Th_implGroup, Th_implKeyGen, Th_implSDealing, Th_implSFault, Th_lawsGroup, Th_lawsKeyGen, Th_lawsSDealing, Th_lawsSFault, Th_string, G_kgT, c_sBad, c_l1Own, c_sFits, hL])
    | ((with_reducible refine ens_step ?_ (fun hE => ?_)); · ((repeat' with_reducible apply And.intro) <;> first | with_reducible assumption | omega | exact True.intro | with_reducible rfl | (show ByteArray.size _ ≤ _; decide) | (simp; done) | (simp; omega) | rfl))
    | ((with_reducible refine And.intro ?_ ?_); · ((repeat' with_reducible apply And.intro) <;> first | with_reducible assumption | omega | exact True.intro | with_reducible rfl | (show ByteArray.size _ ≤ _; decide) | (simp; done) | (simp; omega) | rfl))
    | ((with_reducible refine Fork.intro (fun h' => ?_) (fun h' => ?_)) <;> (try simp only [Bool.not_eq_true', Bool.not_eq_false', bne] at h') <;> (replace hL := And.intro h' hL) <;> (try simp only [decide_eq_true_eq, decide_eq_false_iff_not, beq_iff_eq, beq_eq_false_iff_ne, ne_eq] at h') <;> (try (exfalso; omega)) <;> (try (have hbk := badL_at (p := p) (q := q) (g := g) (cs := cs) (ss := ss) (k := k) (by omega); have hok := getD_bd' how (k := k) (by omega))) <;> (try (exfalso; have hxx := ansK_at hq3 (k := k) (by omega); exact Bool.false_ne_true (hL.1.symm.trans hxx))) <;> (try (rw [mndF_at (by omega) (by omega)] at hz2)) <;> (try (have hke : k = (badL p q g cs ss).length := (by omega); subst hke; rw [mndF_end] at hz2; subst hz2)))
    | (with_reducible refine AWp.skipS ?_)
    | ((with_reducible refine AWp.condT rfl ?_))
    | ((with_reducible refine AWp.condF rfl ?_))
    | (with_reducible refine AWp.condB rfl ?_)
    | (with_reducible refine AWp.ret ?_)
    | (with_reducible refine seqQ_n ?_)
    | (with_reducible refine seqQ_ret ?_)
    | (with_reducible refine blkQ_ret ?_)
    | (with_reducible refine blkQ_n ?_)
    | (with_reducible refine seqQ_exit ?_)
    | (with_reducible refine blkQ_exit ?_)
    | (with_reducible refine blkQ_other (by decide) ?_)
    | (with_reducible refine AWp.block ?_)
    | (with_reducible refine AWp.exit ?_)
    | (with_reducible refine AWp.skip ?_)
    | ((with_reducible refine loop_id ?_); refine AWp.loopAt 6 rfl ?_; refine AWp.loopO [7, 10, 11, 38, 39, 40, 41, 42, 43, 44, 45, 46, 47, 48, 49, 50, 51, 52, 53, 54, 55, 56, 57, 58, 59, 60, 61, 62, 63] (fun z : Nat × List Int => [(38, .lit (.int .i64 (z.1 : Nat)))]) (fun z => [(208, .row 3 .int z.2)]) (fun z => z.1 ≤ (badL p q g cs ss).length ∧ mndF ((badL p q g cs ss).drop z.1) (own.drop z.1) z.2 = mndL p q g cs ss own ∧ z.2.length = ss.length) (fun z => (badL p q g cs ss).length - z.1) (0, ss) (by (try dsimp only); exact ⟨by omega, rfl, rfl⟩) (by (refine Sub.auto (by first | exact frok0 | assumption) rfl rfl ?_ ?_ <;> (try simp only [subE, AS.over2, without, keys, look, List.cons_append, List.nil_append, List.append_nil, List.mem_cons, List.not_mem_nil, or_false, or_true, true_or, false_or, Nat.reduceEqDiff, ↓reduceIte, Option.some.injEq, AV.lit.injEq, Value.int.injEq, Value.bool.injEq, AV.own.injEq, AO.row.injEq, AO.box.injEq, List.cons.injEq, AV.agg.injEq, AV.sl.injEq, true_and, and_true, and_self, heq_eq_eq, List.length_nil, List.length_cons, List.map_nil, List.take_zero, Int.natCast_add, Int.cast_ofNat_Int, Int.natCast_zero, List.length_append, List.length_map, List.length_take, Nat.zero_add]) <;> (simp))) (fun z hz6 L6 hLoop6 => ?_); obtain ⟨k, s⟩ := z; (try dsimp only at hz6); obtain ⟨hz1, hz2, hz3⟩ := hz6)
    | ((with_reducible refine seqQ_f ?_); refine hLoop6 (k + 1, s.set ((badL p q g cs ss).getD k 0 - 1).toNat (own.getD k 0)) _ (by (try dsimp only); exact ⟨by omega, hz2, by rw [List.length_set]; exact hz3⟩) (by (try dsimp only); omega) ?_; ((refine Sub.auto (by first | exact frok0 | assumption) rfl rfl ?_ ?_ <;> (try simp only [subE, AS.over2, without, keys, look, List.cons_append, List.nil_append, List.append_nil, List.mem_cons, List.not_mem_nil, or_false, or_true, true_or, false_or, Nat.reduceEqDiff, ↓reduceIte, Option.some.injEq, AV.lit.injEq, Value.int.injEq, Value.bool.injEq, AV.own.injEq, AO.row.injEq, AO.box.injEq, List.cons.injEq, AV.agg.injEq, AV.sl.injEq, true_and, and_true, and_self, heq_eq_eq, List.length_nil, List.length_cons, List.map_nil, List.take_zero, Int.natCast_add, Int.cast_ofNat_Int, Int.natCast_zero, List.length_append, List.length_map, List.length_take, Nat.zero_add]) <;> ((repeat' apply And.intro) <;> first | rfl | omega | (simp; done)))))
    | ((with_reducible refine EndsAt_id ?_); (try subst_vars); refine EndsAt.done [_, _] (by first | exact .inr rfl | exact .inl rfl) rfl rfl ?_ ?_ <;> first | decide | (repeat' (first | rfl | apply And.intro | trivial)))
    | (with_reducible refine AWp.seq ?_)⟩
noncomputable def c_kgF : Con0 := conF [(.pair .int (.pair .int .int)), (.pair (.list .int) (.list .int)), (.list .int)] fun (⟨⟨p, q, g⟩, ⟨cs, ss⟩, own, _⟩ : (Int × Int × Int) × (List Int × List Int) × (List Int) × Unit) => ((M.Grp p q g ∧ ((∀ c ∈ cs, 0 ≤ c ∧ c < p) ∧ (∀ s ∈ ss, 0 ≤ s ∧ s < q) ∧ ss.length ≤ 7 ∧ cs.length ≤ 7) ∧ ∀ x ∈ own, 0 ≤ x ∧ x < q) ∧ qlB p q g cs ss own = false, .tup [.agg [.cel, .cel], .lit (.bool false)], [])
noncomputable def G_kgF : List (FuncId × Con) := [(83, mk c_sBad), (182, mk c_l1Own), (136, mk c_sFits)]
theorem G_kgF_ok : ∀ f C, (f, C) ∈ G_kgF → C.ok Try.prog f := by
  intro f C h
  simp only [G_kgF, List.mem_cons, Prod.mk.injEq, List.not_mem_nil, or_false] at h
  rcases h with ⟨rfl, rfl⟩ | ⟨rfl, rfl⟩ | ⟨rfl, rfl⟩
  · exact ok_sBad
  · exact ok_l1Own
  · exact ok_sFits
set_option maxRecDepth 100000 in
set_option maxHeartbeats 4000000 in
theorem ok_kgF : (mk c_kgF).ok Try.prog 142 := okF (Θ := Th) (N := 65) (rs := [.cell 6 81, .tmp 7]) Th_ok Try.func142 (by kernel_rfl) rfl Try.results142 (by decide) (by kernel_rfl) fun (⟨⟨p, q, g⟩, ⟨cs, ss⟩, own, _⟩ : (Int × Int × Int) × (List Int × List Int) × (List Int) × Unit) => ⟨rfl, rfl, Nat.le_of_ble_eq_true rfl, fun hc w0 => by
  have hL := dmy_eq
  try dsimp only at hc
  try dsimp only
  obtain ⟨hc, hql⟩ := hc
  obtain ⟨hG, ⟨hcs, hss, hsl, hcl⟩, how⟩ := hc
  have hq2 := hG.q2
  have hqp := hG.qp
  have hp3 := hG.p3
  have hpM := hG.pM
  have hgb : 0 ≤ g ∧ g < p := ⟨by have := hG.g2; omega, hG.gp⟩
  have hbl := badL_le p q g cs ss
  refine AWp.body rfl ?_
  repeat' first
    | ((with_reducible refine AWp.ret_id ?_); refine AWp.sub (Sub.celBox 16 rfl rfl) ?_; refine AWp.ret ?_)
    | ((with_reducible refine hK _ _ ?_); clear hK K)
    | ((with_reducible refine hK _ _ (by kernel_rfl) ?_); clear hK K)
    | ((with_reducible refine AWp.pS Th_ok G_kgF_ok [0, 1, 2, 3, 4, 6, 7, 8, 9, 10, 11, 27, 36, 37, 38, 39, 52] (by decide) ?_); intro K hK)
    | ((with_reducible refine AWp.dS (by kernel_rfl) Th_ok G_kgF_ok [0, 1, 2, 3, 4, 6, 7, 8, 9, 10, 11, 27, 36, 37, 38, 39, 52] ?_); intro K hK)
    | ((with_reducible refine AWp.pE Th_ok G_kgF_ok [0, 1, 2, 3, 4, 6, 7, 8, 9, 10, 11, 27, 36, 37, 38, 39, 52] (by decide) ?_); intro K hK)
    | ((with_reducible refine AWp.dE (by kernel_rfl) Th_ok G_kgF_ok [0, 1, 2, 3, 4, 6, 7, 8, 9, 10, 11, 27, 36, 37, 38, 39, 52] ?_); intro K hK)
    | ((first | with_reducible refine runF_id ?_ | with_reducible refine stepF_id ?_); simp (maxSteps := 2000000) only [runF, stepF, forkOf, gdOf, List.toList_toArray, stepOp, look, opAV, pureOp, callOp, memOp, AS.ev, AS.get, AS.obj, initS, initFrom, AV.cells, AS.upd, Option.bind_some, Option.bind_none, Option.map_some, Option.map_none, Option.getD_none, Option.getD_some, ↓reduceIte, Nat.reduceEqDiff, Nat.reduceAdd, Nat.reduceMul, Nat.reduceSub, List.nil_append, List.append_nil, List.cons_append, List.map_cons, List.map_nil, true_and, and_true, AS.fin, pick, dedup, List.mem_cons, List.not_mem_nil, or_false, false_or, List.size_toArray, List.length_cons, List.length_nil, loadAV, List.drop_zero, List.drop_succ_cons, List.take_zero, List.take_succ_cons, List.getElem?_cons_zero, List.getElem?_cons_succ, List.head?_cons, List.mapM_cons, List.mapM_nil, Option.bind_eq_bind, Option.pure_def, deeps3, deep3, deep2, deep1, deeps, deeps2, mixInts, AV.plain, mk, mkD, DCon.lift, DCon.runC, ren3, ren2, ren1, numb, List.zipIdx_nil, List.zipIdx_cons, List.all_nil, List.all_cons, Nat.reduceLeDiff, List.range, List.range.loop, Ty.sz, beq_self_eq_true, Bool.and_self, and_self, Ty.ofC, AO.isDead, Nat.reduceLT, if_true, Nat.zero_add, Nat.add_zero, ite_true, Nat.le_refl, Bool.false_eq_true, reduceCtorEq, if_false, ite_false, binAV, AO.ren, AV.isCell, fillAV, List.set_cons_zero, List.set_cons_succ, Ty.cells, Ty.flat, Ty.dflt, List.getD_cons_zero, List.getD_cons_succ, Int.reduceToNat, Int.reduceSub, Int.reduceAdd, Int.reduceMul, Int.reduceNeg, forall_eq_or_imp, forall_eq, gdL, id_eq, Nat.lt_irrefl, srcOf, List.replicate_succ, List.replicate_zero, dite_true, List.isEmpty_cons, Option.isSome_some, List.length_append, List.length_singleton, bne_self_eq_false, Bool.not_true, Bool.not_false, conF, asArgs, asArg, asTy, asI1, asB1, asS1, asL1, canons, canon, Fork.true_, Fork.false_, bne, Bool.not_not, List.length_map, pickO, AS.over, TI.bl, bne_iff_ne, AS.over2, without, keys, List.mem_singleton, memOp2, memOp3, absorb, abInt, abBool, abStr, abList, gones, Int.toNat_natCast, List.take_length, subE, List.nodup_cons, List.nodup_nil, not_false_eq_true, Nat.sub_self, conR, asG, asI, asBo, asStr, asIs, asBs, asE4, asI2, asI3, asLL, asLLL, Th_int, Th_SSint, Th_Sint, Th_bool, Th_implDealing, Th_implGroup, Th_implKeyGen, Th_implSDealing, Th_implSFault, Th_lawsGroup, Th_lawsKeyGen, Th_lawsSDealing, Th_lawsSFault, Th_string, G_kgF, c_sBad, c_l1Own, c_sFits, hL])
    | ((with_reducible refine ens_step ?_ (fun hE => ?_)); · ((repeat' with_reducible apply And.intro) <;> first | with_reducible assumption | omega | exact True.intro | with_reducible rfl | (show ByteArray.size _ ≤ _; decide) | (simp; done) | (simp; omega) | rfl))
    | ((with_reducible refine And.intro ?_ ?_); · ((repeat' with_reducible apply And.intro) <;> first | with_reducible assumption | omega | exact True.intro | with_reducible rfl | (show ByteArray.size _ ≤ _; decide) | (simp; done) | (simp; omega) | rfl))
    | ((with_reducible refine Fork.intro (fun h' => ?_) (fun h' => ?_)) <;> (try simp only [Bool.not_eq_true', Bool.not_eq_false', bne] at h') <;> (replace hL := And.intro h' hL) <;> (try simp only [decide_eq_true_eq, decide_eq_false_iff_not, beq_iff_eq, beq_eq_false_iff_ne, ne_eq] at h') <;> (try (have hbk := badL_at (p := p) (q := q) (g := g) (cs := cs) (ss := ss) (k := k) (by omega); have hok := getD_bd' how (k := k) (by omega))) <;> (try (have hat := ansK_t hz2 hL.1)) <;> (try (exfalso; have hke : k = (badL p q g cs ss).length := (by omega); subst hke; have hxx := qlB_mk (p := p) (q := q) (g := g) (cs := cs) (ss := ss) (own := own) (by omega) (by omega) hz2; exact Bool.false_ne_true (hql.symm.trans hxx))))
    | (with_reducible refine AWp.skipS ?_)
    | ((with_reducible refine AWp.condT rfl ?_))
    | ((with_reducible refine AWp.condF rfl ?_))
    | (with_reducible refine AWp.condB rfl ?_)
    | (with_reducible refine AWp.ret ?_)
    | (with_reducible refine seqQ_n ?_)
    | (with_reducible refine seqQ_ret ?_)
    | (with_reducible refine blkQ_ret ?_)
    | (with_reducible refine blkQ_n ?_)
    | (with_reducible refine seqQ_exit ?_)
    | (with_reducible refine blkQ_exit ?_)
    | (with_reducible refine blkQ_other (by decide) ?_)
    | (with_reducible refine AWp.block ?_)
    | (with_reducible refine AWp.exit ?_)
    | (with_reducible refine AWp.skip ?_)
    | ((with_reducible refine loop_id ?_); refine AWp.loopAt 6 rfl ?_; refine AWp.loopO [7, 10, 11, 38, 39, 40, 41, 42, 43, 44, 45, 46, 47, 48, 49, 50, 51, 52, 53, 54, 55, 56, 57, 58, 59, 60, 61, 62, 63] (fun z : Nat × List Int => [(38, .lit (.int .i64 (z.1 : Nat)))]) (fun z => [(208, .row 3 .int z.2)]) (fun z => z.1 ≤ (badL p q g cs ss).length ∧ ansK p q g cs (badL p q g cs ss) own z.1 = true ∧ z.2.length = ss.length) (fun z => (badL p q g cs ss).length - z.1) (0, ss) (by (try dsimp only); exact ⟨by omega, ansK_0, rfl⟩) (by (refine Sub.auto (by first | exact frok0 | assumption) rfl rfl ?_ ?_ <;> (try simp only [subE, AS.over2, without, keys, look, List.cons_append, List.nil_append, List.append_nil, List.mem_cons, List.not_mem_nil, or_false, or_true, true_or, false_or, Nat.reduceEqDiff, ↓reduceIte, Option.some.injEq, AV.lit.injEq, Value.int.injEq, Value.bool.injEq, AV.own.injEq, AO.row.injEq, AO.box.injEq, List.cons.injEq, AV.agg.injEq, AV.sl.injEq, true_and, and_true, and_self, heq_eq_eq, List.length_nil, List.length_cons, List.map_nil, List.take_zero, Int.natCast_add, Int.cast_ofNat_Int, Int.natCast_zero, List.length_append, List.length_map, List.length_take, Nat.zero_add]) <;> (simp))) (fun z hz6 L6 hLoop6 => ?_); obtain ⟨k, s⟩ := z; (try dsimp only at hz6); obtain ⟨hz1, hz2, hz3⟩ := hz6)
    | ((with_reducible refine seqQ_f ?_); refine hLoop6 (k + 1, s.set ((badL p q g cs ss).getD k 0 - 1).toNat (own.getD k 0)) _ (by (try dsimp only); exact ⟨by omega, hat, by rw [List.length_set]; exact hz3⟩) (by (try dsimp only); omega) ?_; ((refine Sub.auto (by first | exact frok0 | assumption) rfl rfl ?_ ?_ <;> (try simp only [subE, AS.over2, without, keys, look, List.cons_append, List.nil_append, List.append_nil, List.mem_cons, List.not_mem_nil, or_false, or_true, true_or, false_or, Nat.reduceEqDiff, ↓reduceIte, Option.some.injEq, AV.lit.injEq, Value.int.injEq, Value.bool.injEq, AV.own.injEq, AO.row.injEq, AO.box.injEq, List.cons.injEq, AV.agg.injEq, AV.sl.injEq, true_and, and_true, and_self, heq_eq_eq, List.length_nil, List.length_cons, List.map_nil, List.take_zero, Int.natCast_add, Int.cast_ofNat_Int, Int.natCast_zero, List.length_append, List.length_map, List.length_take, Nat.zero_add]) <;> ((repeat' apply And.intro) <;> first | rfl | omega | (simp; done)))))
    | ((with_reducible refine EndsAt_id ?_); (try subst_vars); refine EndsAt.done [] (by first | exact .inr rfl | exact .inl rfl) rfl rfl ?_ ?_ <;> first | decide | (repeat' (first | rfl | apply And.intro | trivial)))
    | (with_reducible refine AWp.seq ?_)⟩
noncomputable def c_kgMended : Con0 := conF [(.pair .int (.pair .int .int)), (.pair (.list .int) (.list .int)), (.list .int)] fun (⟨⟨p, q, g⟩, ⟨cs, ss⟩, own, _⟩ : (Int × Int × Int) × (List Int × List Int) × (List Int) × Unit) => if qlB p q g cs ss own = true then ((M.Grp p q g ∧ ((∀ c ∈ cs, 0 ≤ c ∧ c < p) ∧ (∀ s ∈ ss, 0 ≤ s ∧ s < q) ∧ ss.length ≤ 7 ∧ cs.length ≤ 7) ∧ ∀ x ∈ own, 0 ≤ x ∧ x < q) ∧ qlB p q g cs ss own = true, .tup [.agg [.own 0 cs.length, .own 1 ss.length], .lit (.bool true)], [.row 3 .int cs, .row 3 .int (mndL p q g cs ss own)]) else ((M.Grp p q g ∧ ((∀ c ∈ cs, 0 ≤ c ∧ c < p) ∧ (∀ s ∈ ss, 0 ≤ s ∧ s < q) ∧ ss.length ≤ 7 ∧ cs.length ≤ 7) ∧ ∀ x ∈ own, 0 ≤ x ∧ x < q) ∧ qlB p q g cs ss own = false, .tup [.agg [.cel, .cel], .lit (.bool false)], [])
theorem ok_kgMended : (mk c_kgMended).ok Try.prog 142 := Con0.either ok_kgT ok_kgF fun args => by
  unfold c_kgMended c_kgT c_kgF conF
  cases h : asArgs _ args with
  | none => exact .inl rfl
  | some d =>
    obtain ⟨⟨p, q, g⟩, ⟨cs, ss⟩, own, _⟩ := d
    by_cases hb : qlB p q g cs ss own = true
    · exact .inl (congrArg some (if_pos hb))
    · exact .inr (congrArg some (if_neg hb))
def qlJ (p q g : Int) (l : List (List Int × List Int)) (an : List (List Int)) (j : Nat) : Bool := qlB p q g (l.getD j ([], [])).1 (l.getD j ([], [])).2 (an.getD j [])
/-- the qualified ones of the first k dealers -/
def qIx (p q g : Int) (l : List (List Int × List Int)) (an : List (List Int)) (k : Nat) : List Int := ((List.range k).filter (qlJ p q g l an)).map fun (j : Nat) => (j : Int) + 1
def mdJ (p q g : Int) (l : List (List Int × List Int)) (an : List (List Int)) (j : Nat) : List Int × List Int := ((l.getD j ([], [])).1, mndL p q g (l.getD j ([], [])).1 (l.getD j ([], [])).2 (an.getD j []))
/-- their mended dealings -/
def qMd (p q g : Int) (l : List (List Int × List Int)) (an : List (List Int)) (k : Nat) : List (List Int × List Int) := ((List.range k).filter (qlJ p q g l an)).map (mdJ p q g l an)
section
variable {p q g : Int} {l : List (List Int × List Int)} {an : List (List Int)} {k : Nat}
theorem qIx_t (h : qlB p q g (l.getD k ([], [])).1 (l.getD k ([], [])).2 (an.getD k []) = true) : qIx p q g l an k ++ [(k : Int) + 1] = qIx p q g l an (k + 1) := by
  have h' : qlJ p q g l an k = true := h
  simp only [qIx, List.range_succ, List.filter_append, List.filter_cons, h', if_true, List.filter_nil, List.map_append, List.map_cons, List.map_nil]
theorem qIx_f (h : qlB p q g (l.getD k ([], [])).1 (l.getD k ([], [])).2 (an.getD k []) = false) : qIx p q g l an (k + 1) = qIx p q g l an k := by
  have h' : qlJ p q g l an k = false := h
  simp [qIx, List.range_succ, List.filter_append, h']
theorem qMd_t (h : qlB p q g (l.getD k ([], [])).1 (l.getD k ([], [])).2 (an.getD k []) = true) : qMd p q g l an k ++ [((l.getD k ([], [])).1, mndL p q g (l.getD k ([], [])).1 (l.getD k ([], [])).2 (an.getD k []))] = qMd p q g l an (k + 1) := by
  have h' : qlJ p q g l an k = true := h
  simp only [qMd, List.range_succ, List.filter_append, List.filter_cons, h', if_true, List.filter_nil, List.map_append, List.map_cons, List.map_nil, mdJ]
theorem qMd_f (h : qlB p q g (l.getD k ([], [])).1 (l.getD k ([], [])).2 (an.getD k []) = false) : qMd p q g l an (k + 1) = qMd p q g l an k := by
  have h' : qlJ p q g l an k = false := h
  simp [qMd, List.range_succ, List.filter_append, h']
theorem qIx_le : (qIx p q g l an k).length ≤ k := by
  unfold qIx; rw [List.length_map]
  exact Nat.le_trans (List.length_filter_le _ _) (by simp)
theorem qMd_len : (qMd p q g l an k).length = (qIx p q g l an k).length := by simp [qMd, qIx]
theorem qIx_st (h : qlB p q g (l.getD k ([], [])).1 (l.getD k ([], [])).2 (an.getD k []) = true) : (qIx p q g l an (k + 1)).length = (qIx p q g l an k).length + 1 := by rw [← qIx_t h]; simp
end
/-- what an answer must not be -/
def naB (q : Int) (own : List Int) : Bool := decide ((7 : Int) < (own.length : Int)) || !expsB q own
noncomputable def okQ (p q g : Int) (l : List (List Int × List Int)) (an : List (List Int)) : Bool := kgB p q g l && (((an.length : Int) == l.length) && !(an.any (naB q)))
theorem naB_at {q : Int} {an : List (List Int)} (h : an.any (naB q) = false) {k : Nat} (hk : k < an.length) : (an.getD k []).length ≤ 7 ∧ ∀ x ∈ an.getD k [], 0 ≤ x ∧ x < q := by
  have := List.any_eq_false.1 h _ (getD_in [] hk)
  simp only [naB, Bool.or_eq_true, decide_eq_true_eq, Bool.not_eq_true', not_or, Bool.not_eq_false] at this
  exact ⟨by omega, fun x hx => expsB_mem this.2 hx⟩
theorem naB_1 {q : Int} {own : List Int} (h : decide ((7 : Int) < (own.length : Int)) = true) : naB q own = true := by unfold naB; rw [h]; rfl
theorem naB_2 {q : Int} {own : List Int} (h : expsB q own = false) : naB q own = true := by unfold naB; rw [h]; simp
theorem naB_0 {q : Int} {own : List Int} (h1 : decide ((7 : Int) < (own.length : Int)) = false) (h2 : expsB q own = true) : naB q own = false := by unfold naB; rw [h1, h2]; rfl
structure QIn (p q : Int) (l : List (List Int × List Int)) (an : List (List Int)) : Prop where
  ds : DsOK p q l
  len : an.length = l.length
  no : an.any (naB q) = false
theorem okQ_use {p q g : Int} {l : List (List Int × List Int)} {an : List (List Int)} (h : okQ p q g l an = true) : kgB p q g l = true ∧ QIn p q l an := by
  simp only [okQ, Bool.and_eq_true, beq_iff_eq, Bool.not_eq_true'] at h
  exact ⟨h.1, (kg_use h.1).2.1, by omega, h.2.2⟩
noncomputable def PQi (p q g : Int) (l : List (List Int × List Int)) (an : List (List Int)) : List Int := if okQ p q g l an = true then qIx p q g l an l.length else []
theorem PQi_le (p q g : Int) (l : List (List Int × List Int)) (an : List (List Int)) : (PQi p q g l an).length ≤ 7 := by
  unfold PQi; split
  · rename_i h
    have := (okQ_use h).2.ds.len
    have := qIx_le (p := p) (q := q) (g := g) (l := l) (an := an) (k := l.length)
    omega
  · simp
noncomputable def c_qualified : Con0 := conF [(.pair .int (.pair .int .int)), (.list (.pair (.list .int) (.list .int))), (.list (.list .int))] fun (⟨⟨p, q, g⟩, l, an, _⟩ : (Int × Int × Int) × (List (List Int × List Int)) × (List (List Int)) × Unit) => (M.Grp p q g ∧ QIn p q l an, .own 0 (qIx p q g l an l.length).length, [.row 3 .int (qIx p q g l an l.length)])
noncomputable def G_qualified : List (FuncId × Con) := [(145, mk c_isQualified)]
theorem G_qualified_ok : ∀ f C, (f, C) ∈ G_qualified → C.ok Try.prog f := by
  intro f C h
  simp only [G_qualified, List.mem_cons, Prod.mk.injEq, List.not_mem_nil, or_false] at h
  obtain ⟨rfl, rfl⟩ := h
  exact ok_isQualified
set_option maxRecDepth 100000 in
set_option maxHeartbeats 4000000 in
theorem ok_qualified : (mk c_qualified).ok Try.prog 90 := okF (Θ := Th) (N := 32) (rs := [.tmp 6]) Th_ok Try.func90 (by kernel_rfl) rfl Try.results90 (by decide) (by kernel_rfl) fun (⟨⟨p, q, g⟩, l, an, _⟩ : (Int × Int × Int) × (List (List Int × List Int)) × (List (List Int)) × Unit) => ⟨rfl, rfl, Nat.le_of_ble_eq_true rfl, fun hc w0 => by
  have hL := dmy_eq
  try dsimp only at hc
  try dsimp only
  obtain ⟨hG, hQ⟩ := hc
  have hq2 := hG.q2
  have hqp := hG.qp
  have hp3 := hG.p3
  have hpM := hG.pM
  have hgb : 0 ≤ g ∧ g < p := ⟨by have := hG.g2; omega, hG.gp⟩
  have hll := hQ.ds.len
  have hdm := hQ.ds.dim
  have hal := hQ.len
  refine AWp.body rfl ?_
  repeat' first
    | ((with_reducible refine hK _ _ ?_); clear hK K)
    | ((with_reducible refine hK _ _ (by kernel_rfl) ?_); clear hK K)
    | ((with_reducible refine AWp.pS Th_ok G_qualified_ok [0, 1, 2, 3, 6, 7, 8, 9, 11, 12, 13, 14, 24] (by decide) ?_); intro K hK)
    | ((with_reducible refine AWp.dS (by kernel_rfl) Th_ok G_qualified_ok [0, 1, 2, 3, 6, 7, 8, 9, 11, 12, 13, 14, 24] ?_); intro K hK)
    | ((with_reducible refine AWp.pE Th_ok G_qualified_ok [0, 1, 2, 3, 6, 7, 8, 9, 11, 12, 13, 14, 24] (by decide) ?_); intro K hK)
    | ((with_reducible refine AWp.dE (by kernel_rfl) Th_ok G_qualified_ok [0, 1, 2, 3, 6, 7, 8, 9, 11, 12, 13, 14, 24] ?_); intro K hK)
    | ((first | with_reducible refine runF_id ?_ | with_reducible refine stepF_id ?_); simp (maxSteps := 2000000) only [runF, stepF, forkOf, gdOf, List.toList_toArray, stepOp, look, opAV, pureOp, callOp, memOp, AS.ev, AS.get, AS.obj, initS, initFrom, AV.cells, AS.upd, Option.bind_some, Option.bind_none, Option.map_some, Option.map_none, Option.getD_none, Option.getD_some, ↓reduceIte, Nat.reduceEqDiff, Nat.reduceAdd, Nat.reduceMul, Nat.reduceSub, List.nil_append, List.append_nil, List.cons_append, List.map_cons, List.map_nil, true_and, and_true, AS.fin, pick, dedup, List.mem_cons, List.not_mem_nil, or_false, false_or, List.size_toArray, List.length_cons, List.length_nil, loadAV, List.drop_zero, List.drop_succ_cons, List.take_zero, List.take_succ_cons, List.getElem?_cons_zero, List.getElem?_cons_succ, List.head?_cons, List.mapM_cons, List.mapM_nil, Option.bind_eq_bind, Option.pure_def, deeps3, deep3, deep2, deep1, deeps, deeps2, mixInts, AV.plain, mk, mkD, DCon.lift, DCon.runC, ren3, ren2, ren1, numb, List.zipIdx_nil, List.zipIdx_cons, List.all_nil, List.all_cons, Nat.reduceLeDiff, List.range, List.range.loop, Ty.sz, beq_self_eq_true, Bool.and_self, and_self, Ty.ofC, AO.isDead, Nat.reduceLT, if_true, Nat.zero_add, Nat.add_zero, ite_true, Nat.le_refl, Bool.false_eq_true, reduceCtorEq, if_false, ite_false, binAV, AO.ren, AV.isCell, fillAV, List.set_cons_zero, List.set_cons_succ, Ty.cells, Ty.flat, Ty.dflt, List.getD_cons_zero, List.getD_cons_succ, Int.reduceToNat, Int.reduceSub, Int.reduceAdd, Int.reduceMul, Int.reduceNeg, forall_eq_or_imp, forall_eq, gdL, id_eq, Nat.lt_irrefl, srcOf, List.replicate_succ, List.replicate_zero, dite_true, List.isEmpty_cons, Option.isSome_some, List.length_append, List.length_singleton, bne_self_eq_false, Bool.not_true, Bool.not_false, conF, asArgs, asArg, asTy, asI1, asB1, asS1, asL1, canons, canon, Fork.true_, Fork.false_, bne, Bool.not_not, List.length_map, pickO, AS.over, TI.bl, bne_iff_ne, AS.over2, without, keys, List.mem_singleton, memOp2, memOp3, absorb, abInt, abBool, abStr, abList, gones, Int.toNat_natCast, List.take_length, subE, List.nodup_cons, List.nodup_nil, not_false_eq_true, Nat.sub_self, conR, asG, asI, asBo, asStr, asIs, asBs, asE4, asI2, asI3, asLL, asLLL, Th_int, Th_SSint, Th_Sint, Th_implDealing, Th_implGroup, Th_implSDealing, Th_lawsGroup, Th_string, G_qualified, c_isQualified, hL])
    | ((with_reducible refine ens_step ?_ (fun hE => ?_)); · ((repeat' with_reducible apply And.intro) <;> first | with_reducible assumption | omega | exact True.intro | with_reducible rfl | (show ByteArray.size _ ≤ _; decide) | (simp; done) | (simp; omega) | rfl))
    | ((with_reducible refine And.intro ?_ ?_); · ((repeat' with_reducible apply And.intro) <;> first | with_reducible assumption | omega | exact True.intro | with_reducible rfl | (show ByteArray.size _ ≤ _; decide) | (simp; done) | (simp; omega) | rfl))
    | ((with_reducible refine Fork.intro (fun h' => ?_) (fun h' => ?_)) <;> (try simp only [Bool.not_eq_true', Bool.not_eq_false', bne] at h') <;> (replace hL := And.intro h' hL) <;> (try simp only [decide_eq_true_eq, decide_eq_false_iff_not, beq_iff_eq, beq_eq_false_iff_ne, ne_eq] at h') <;> (try (have hdk := hQ.ds.at (k := k) (by omega); obtain ⟨hk3, hk4, hk5, hk6⟩ := hdk; have hna := naB_at hQ.no (k := k) (by omega); obtain ⟨hn1, hn2⟩ := hna)) <;> (try (have hqt := qIx_t (k := k) hL.1; have hqs := qIx_st (k := k) hL.1)) <;> (try (have hqf := qIx_f (k := k) hL.1)) <;> (try (have hke : k = l.length := (by omega); subst hke)))
    | (with_reducible refine AWp.skipS ?_)
    | ((with_reducible refine AWp.condT rfl ?_))
    | ((with_reducible refine AWp.condF rfl ?_))
    | (with_reducible refine AWp.condB rfl ?_)
    | (with_reducible refine AWp.ret ?_)
    | (with_reducible refine seqQ_n ?_)
    | (with_reducible refine seqQ_ret ?_)
    | (with_reducible refine blkQ_ret ?_)
    | (with_reducible refine blkQ_n ?_)
    | (with_reducible refine seqQ_exit ?_)
    | (with_reducible refine blkQ_exit ?_)
    | (with_reducible refine blkQ_other (by decide) ?_)
    | (with_reducible refine AWp.block ?_)
    | (with_reducible refine AWp.exit ?_)
    | (with_reducible refine AWp.skip ?_)
    | ((with_reducible refine loop_id ?_); refine AWp.loopAt 3 rfl ?_; refine AWp.loopO [7, 8, 9, 13, 14, 15, 16, 17, 18, 19, 20, 21, 22, 23, 24, 25, 26, 27, 28, 29, 30] (fun k => [(13, .lit (.int .i64 (k : Nat))), (7, .own 16 (qIx p q g l an k).length)]) (fun k => [(16, .row 3 .int (qIx p q g l an k))]) (fun k => k ≤ l.length) (fun k => l.length - k) 0 (by omega) (by refine Sub.auto (by first | exact frok0 | assumption) rfl rfl ?_ ?_ <;> (try simp only [subE, AS.over2, without, keys, look, List.cons_append, List.nil_append, List.append_nil, List.mem_cons, List.not_mem_nil, or_false, or_true, true_or, false_or, Nat.reduceEqDiff, ↓reduceIte, Option.some.injEq, AV.lit.injEq, Value.int.injEq, Value.bool.injEq, AV.own.injEq, AO.row.injEq, AO.box.injEq, List.cons.injEq, AV.agg.injEq, AV.sl.injEq, true_and, and_true, and_self, heq_eq_eq, List.length_nil, List.length_cons, List.map_nil, List.take_zero, Int.natCast_add, Int.cast_ofNat_Int, Int.natCast_zero, List.length_append, List.length_map, List.length_take, Nat.zero_add]) <;> (simp [qIx])) (fun k hk_3 L3 hLoop3 => ?_); have hxl := qIx_le (p := p) (q := q) (g := g) (l := l) (an := an) (k := k))
    | ((with_reducible refine seqQ_f ?_); refine hLoop3 (k + 1) _ (by omega) (by omega) ?_; (refine Sub.auto (by first | exact frok0 | assumption) rfl rfl ?_ ?_ <;> (try simp only [subE, AS.over2, without, keys, look, List.cons_append, List.nil_append, List.append_nil, List.mem_cons, List.not_mem_nil, or_false, or_true, true_or, false_or, Nat.reduceEqDiff, ↓reduceIte, Option.some.injEq, AV.lit.injEq, Value.int.injEq, Value.bool.injEq, AV.own.injEq, AO.row.injEq, AO.box.injEq, List.cons.injEq, AV.agg.injEq, AV.sl.injEq, true_and, and_true, and_self, heq_eq_eq, List.length_nil, List.length_cons, List.map_nil, List.take_zero, Int.natCast_add, Int.cast_ofNat_Int, Int.natCast_zero, List.length_append, List.length_map, List.length_take, Nat.zero_add]) <;> ((repeat' apply And.intro) <;> first | rfl | omega | exact hqt | exact hqf.symm | (rw [hqs]) | (rw [hqf]))))
    | ((with_reducible refine EndsAt_id ?_); (try subst_vars); refine EndsAt.done [_] (by first | exact .inr rfl | exact .inl rfl) rfl rfl ?_ ?_ <;> first | decide | (repeat' (first | rfl | apply And.intro | trivial)))
    | (with_reducible refine AWp.seq ?_)⟩
noncomputable def c_kgQualified : Con0 := conF [(.pair .int (.pair .int .int)), (.list (.pair (.list .int) (.list .int))), (.list (.list .int))] fun (⟨⟨p, q, g⟩, l, an, _⟩ : (Int × Int × Int) × (List (List Int × List Int)) × (List (List Int)) × Unit) => (M.Grp p q g ∧ QIn p q l an, .tup [.own 0 (qIx p q g l an l.length).length, .own 1 (qMd p q g l an l.length).length], [.row 3 .int (qIx p q g l an l.length), .row 81 (.pair (.list .int) (.list .int)) (qMd p q g l an l.length)])
noncomputable def G_kgQualified : List (FuncId × Con) := [(142, mk c_kgMended)]
theorem G_kgQualified_ok : ∀ f C, (f, C) ∈ G_kgQualified → C.ok Try.prog f := by
  intro f C h
  simp only [G_kgQualified, List.mem_cons, Prod.mk.injEq, List.not_mem_nil, or_false] at h
  obtain ⟨rfl, rfl⟩ := h
  exact ok_kgMended
set_option maxRecDepth 100000 in
set_option maxHeartbeats 4000000 in
theorem ok_kgQualified : (mk c_kgQualified).ok Try.prog 88 := okF (Θ := Th) (N := 44) (rs := [.tmp 6, .tmp 7]) Th_ok Try.func88 (by kernel_rfl) rfl Try.results88 (by decide) (by kernel_rfl) fun (⟨⟨p, q, g⟩, l, an, _⟩ : (Int × Int × Int) × (List (List Int × List Int)) × (List (List Int)) × Unit) => ⟨rfl, rfl, Nat.le_of_ble_eq_true rfl, fun hc w0 => by
  have hL := dmy_eq
  try dsimp only at hc
  try dsimp only
  obtain ⟨hG, hQ⟩ := hc
  have hq2 := hG.q2
  have hqp := hG.qp
  have hp3 := hG.p3
  have hpM := hG.pM
  have hgb : 0 ≤ g ∧ g < p := ⟨by have := hG.g2; omega, hG.gp⟩
  have hll := hQ.ds.len
  have hdm := hQ.ds.dim
  have hal := hQ.len
  refine AWp.body rfl ?_
  repeat' first
    | ((with_reducible refine hK _ _ ?_); clear hK K)
    | ((with_reducible refine hK _ _ (by kernel_rfl) ?_); clear hK K)
    | ((with_reducible refine AWp.pS Th_ok G_kgQualified_ok [0, 1, 2, 3, 6, 7, 8, 9, 10, 11, 12, 13, 14, 15, 16, 17, 31] (by decide) ?_); intro K hK)
    | ((with_reducible refine AWp.dS (by kernel_rfl) Th_ok G_kgQualified_ok [0, 1, 2, 3, 6, 7, 8, 9, 10, 11, 12, 13, 14, 15, 16, 17, 31] ?_); intro K hK)
    | ((with_reducible refine AWp.pE Th_ok G_kgQualified_ok [0, 1, 2, 3, 6, 7, 8, 9, 10, 11, 12, 13, 14, 15, 16, 17, 31] (by decide) ?_); intro K hK)
    | ((with_reducible refine AWp.dE (by kernel_rfl) Th_ok G_kgQualified_ok [0, 1, 2, 3, 6, 7, 8, 9, 10, 11, 12, 13, 14, 15, 16, 17, 31] ?_); intro K hK)
    | ((first | with_reducible refine runF_id ?_ | with_reducible refine stepF_id ?_); simp (maxSteps := 2000000) only [runF, stepF, forkOf, gdOf, List.toList_toArray, stepOp, look, opAV, pureOp, callOp, memOp, AS.ev, AS.get, AS.obj, initS, initFrom, AV.cells, AS.upd, Option.bind_some, Option.bind_none, Option.map_some, Option.map_none, Option.getD_none, Option.getD_some, ↓reduceIte, Nat.reduceEqDiff, Nat.reduceAdd, Nat.reduceMul, Nat.reduceSub, List.nil_append, List.append_nil, List.cons_append, List.map_cons, List.map_nil, true_and, and_true, AS.fin, pick, dedup, List.mem_cons, List.not_mem_nil, or_false, false_or, List.size_toArray, List.length_cons, List.length_nil, loadAV, List.drop_zero, List.drop_succ_cons, List.take_zero, List.take_succ_cons, List.getElem?_cons_zero, List.getElem?_cons_succ, List.head?_cons, List.mapM_cons, List.mapM_nil, Option.bind_eq_bind, Option.pure_def, deeps3, deep3, deep2, deep1, deeps, deeps2, mixInts, AV.plain, mk, mkD, DCon.lift, DCon.runC, ren3, ren2, ren1, numb, List.zipIdx_nil, List.zipIdx_cons, List.all_nil, List.all_cons, Nat.reduceLeDiff, List.range, List.range.loop, Ty.sz, beq_self_eq_true, Bool.and_self, and_self, Ty.ofC, AO.isDead, Nat.reduceLT, if_true, Nat.zero_add, Nat.add_zero, ite_true, Nat.le_refl, Bool.false_eq_true, reduceCtorEq, if_false, ite_false, binAV, AO.ren, AV.isCell, fillAV, List.set_cons_zero, List.set_cons_succ, Ty.cells, Ty.flat, Ty.dflt, List.getD_cons_zero, List.getD_cons_succ, Int.reduceToNat, Int.reduceSub, Int.reduceAdd, Int.reduceMul, Int.reduceNeg, forall_eq_or_imp, forall_eq, gdL, id_eq, Nat.lt_irrefl, srcOf, List.replicate_succ, List.replicate_zero, dite_true, List.isEmpty_cons, Option.isSome_some, List.length_append, List.length_singleton, bne_self_eq_false, Bool.not_true, Bool.not_false, conF, asArgs, asArg, asTy, asI1, asB1, asS1, asL1, canons, canon, Fork.true_, Fork.false_, bne, Bool.not_not, List.length_map, pickO, AS.over, TI.bl, bne_iff_ne, AS.over2, without, keys, List.mem_singleton, memOp2, memOp3, absorb, abInt, abBool, abStr, abList, gones, Int.toNat_natCast, List.take_length, subE, List.nodup_cons, List.nodup_nil, not_false_eq_true, Nat.sub_self, conR, asG, asI, asBo, asStr, asIs, asBs, asE4, asI2, asI3, asLL, asLLL, Th_int, Th_SSint, Th_Sint, Th_implDealing, Th_implGroup, Th_implSDealing, Th_lawsGroup, Th_lawsSDealing, Th_string, G_kgQualified, c_kgMended, hL])
    | ((with_reducible refine ens_step ?_ (fun hE => ?_)); · ((repeat' with_reducible apply And.intro) <;> first | with_reducible assumption | omega | exact True.intro | with_reducible rfl | (show ByteArray.size _ ≤ _; decide) | (simp; done) | (simp; omega) | rfl))
    | ((with_reducible refine And.intro ?_ ?_); · ((repeat' with_reducible apply And.intro) <;> first | with_reducible assumption | omega | exact True.intro | with_reducible rfl | (show ByteArray.size _ ≤ _; decide) | (simp; done) | (simp; omega) | rfl))
    | ((with_reducible refine Fork.intro (fun h' => ?_) (fun h' => ?_)) <;> (try simp only [Bool.not_eq_true', Bool.not_eq_false', bne] at h') <;> (replace hL := And.intro h' hL) <;> (try simp only [decide_eq_true_eq, decide_eq_false_iff_not, beq_iff_eq, beq_eq_false_iff_ne, ne_eq] at h') <;> (try (have hdk := hQ.ds.at (k := k) (by omega); obtain ⟨hk3, hk4, hk5, hk6⟩ := hdk; have hna := naB_at hQ.no (k := k) (by omega); obtain ⟨hn1, hn2⟩ := hna)) <;> (try (have hqt := qIx_t (k := k) hb; have hqs := qIx_st (k := k) hb; have hmt := qMd_t (k := k) hb; have hmnl := mndL_len (p := p) (q := q) (g := g) (cs := (l.getD k ([], [])).1) (ss := (l.getD k ([], [])).2) (own := an.getD k []))) <;> (try (have hqf := qIx_f (k := k) hb; have hmf := qMd_f (k := k) hb)) <;> (try (have hke : k = l.length := (by omega); subst hke)))
    | (with_reducible refine AWp.skipS ?_)
    | ((with_reducible refine AWp.condT rfl ?_))
    | ((with_reducible refine AWp.condF rfl ?_))
    | (with_reducible refine AWp.condB rfl ?_)
    | (with_reducible refine AWp.ret ?_)
    | (with_reducible refine seqQ_n ?_)
    | (with_reducible refine seqQ_ret ?_)
    | (with_reducible refine blkQ_ret ?_)
    | (with_reducible refine blkQ_n ?_)
    | (with_reducible refine seqQ_exit ?_)
    | (with_reducible refine blkQ_exit ?_)
    | (with_reducible refine blkQ_other (by decide) ?_)
    | (with_reducible refine AWp.block ?_)
    | (with_reducible refine AWp.exit ?_)
    | (with_reducible refine AWp.skip ?_)
    | ((with_reducible refine loop_id ?_); refine AWp.loopAt 4 rfl ?_; refine AWp.sub (Sub.nilSlot 8 300008 3 .int rfl rfl) ?_; refine AWp.sub (Sub.nilSlot 9 300009 81 (.pair (.list .int) (.list .int)) rfl rfl) ?_; refine AWp.loopO [8, 9, 10, 11, 12, 13, 16, 17, 18, 19, 20, 21, 22, 23, 24, 25, 26, 27, 28, 29, 30, 31, 32, 33, 34, 35, 36, 37, 38, 39, 40, 41] (fun k => [(16, .lit (.int .i64 (k : Nat))), (8, .own 300008 (qIx p q g l an k).length), (9, .own 300009 (qIx p q g l an k).length)]) (fun k => [(300008, .row 3 .int (qIx p q g l an k)), (300009, .row 81 (.pair (.list .int) (.list .int)) (qMd p q g l an k))]) (fun k => k ≤ l.length) (fun k => l.length - k) 0 (by omega) (by refine Sub.auto (by first | exact frok0 | assumption) rfl rfl ?_ ?_ <;> (try simp only [subE, AS.over2, without, keys, look, List.cons_append, List.nil_append, List.append_nil, List.mem_cons, List.not_mem_nil, or_false, or_true, true_or, false_or, Nat.reduceEqDiff, ↓reduceIte, Option.some.injEq, AV.lit.injEq, Value.int.injEq, Value.bool.injEq, AV.own.injEq, AO.row.injEq, AO.box.injEq, List.cons.injEq, AV.agg.injEq, AV.sl.injEq, true_and, and_true, and_self, heq_eq_eq, List.length_nil, List.length_cons, List.map_nil, List.take_zero, Int.natCast_add, Int.cast_ofNat_Int, Int.natCast_zero, List.length_append, List.length_map, List.length_take, Nat.zero_add]) <;> (simp [qIx, qMd])) (fun k hk_4 L4 hLoop4 => ?_); have hxl := qIx_le (p := p) (q := q) (g := g) (l := l) (an := an) (k := k); have hml := qMd_len (p := p) (q := q) (g := g) (l := l) (an := an) (k := k); (rcases Bool.eq_false_or_eq_true (qlB p q g (l.getD k ([], [])).1 (l.getD k ([], [])).2 (an.getD k [])) with hb | hb) <;> replace hL := And.intro hb hL)
    | ((with_reducible refine seqQ_f ?_); refine hLoop4 (k + 1) _ (by omega) (by omega) ?_; (refine Sub.auto (by first | exact frok0 | assumption) rfl rfl ?_ ?_ <;> (try simp only [subE, AS.over2, without, keys, look, List.cons_append, List.nil_append, List.append_nil, List.mem_cons, List.not_mem_nil, or_false, or_true, true_or, false_or, Nat.reduceEqDiff, ↓reduceIte, Option.some.injEq, AV.lit.injEq, Value.int.injEq, Value.bool.injEq, AV.own.injEq, AO.row.injEq, AO.box.injEq, List.cons.injEq, AV.agg.injEq, AV.sl.injEq, true_and, and_true, and_self, heq_eq_eq, List.length_nil, List.length_cons, List.map_nil, List.take_zero, Int.natCast_add, Int.cast_ofNat_Int, Int.natCast_zero, List.length_append, List.length_map, List.length_take, Nat.zero_add]) <;> ((repeat' apply And.intro) <;> first | rfl | omega | exact hqt | exact hmt | exact hqf.symm | exact hmf.symm | (rw [hqs]) | (rw [hqf]))))
    | ((with_reducible refine EndsAt_id ?_); (try subst_vars); (try simp only [qMd_len, hL, List.length_cons, List.length_nil, Nat.zero_add, Nat.reduceAdd, Bool.and_true, Bool.and_false, Bool.true_and, Bool.false_and, Bool.and_self, ↓reduceIte, Bool.false_eq_true, Bool.not_true, Bool.not_false, bne]); refine EndsAt.done [_, _] (by first | exact .inr rfl | exact .inl rfl) rfl rfl ?_ ?_ <;> first | decide | (repeat' (first | rfl | apply And.intro | trivial)))
    | (with_reducible refine AWp.seq ?_)⟩
def m_naP : List AV → Option (List Int × Int × Int × Int)
  | [.sl .int own, .rp [.lit (.int .i64 p), .lit (.int .i64 q), .lit (.int .i64 g)]] => some (own, p, q, g)
  | _ => none
noncomputable def c_naP : Con0 := conR m_naP fun ((own, p, q, g) : List Int × Int × Int × Int) => (M.Grp p q g, .lit (.bool (naB q own)), [])
noncomputable def G_naP : List (FuncId × Con) := [(110, mk c_areExps)]
theorem G_naP_ok : ∀ f C, (f, C) ∈ G_naP → C.ok Try.prog f := by
  intro f C h
  simp only [G_naP, List.mem_cons, Prod.mk.injEq, List.not_mem_nil, or_false] at h
  obtain ⟨rfl, rfl⟩ := h
  exact ok_areExps
set_option maxRecDepth 100000 in
set_option maxHeartbeats 4000000 in
theorem ok_naP : (mk c_naP).ok Try.prog 144 := okR (Θ := Th) (N := 13) (rs := [.tmp 3]) Th_ok Try.func144 (by kernel_rfl) rfl Try.results144 (by decide) (by kernel_rfl) (fun ((own, p, q, g) : List Int × Int × Int × Int) => [.sl .int own, .rp [.lit (.int .i64 p), .lit (.int .i64 q), .lit (.int .i64 g)]]) (fun args d h => by unfold m_naP at h; split at h <;> cases h; rfl) fun ((own, p, q, g) : List Int × Int × Int × Int) => ⟨rfl, rfl, Nat.le_of_ble_eq_true rfl, fun hc w0 => by
  have hL := dmy_eq
  try dsimp only at hc
  try dsimp only
  have hG := hc
  have hq2 := hG.q2
  have hqp := hG.qp
  have hp3 := hG.p3
  have hpM := hG.pM
  have hgb : 0 ≤ g ∧ g < p := ⟨by have := hG.g2; omega, hG.gp⟩
  refine AWp.body rfl ?_
  repeat' first
    | ((with_reducible refine hK _ _ ?_); clear hK K)
    | ((with_reducible refine hK _ _ (by kernel_rfl) ?_); clear hK K)
    | ((with_reducible refine AWp.pS Th_ok G_naP_ok [0, 1, 3] (by decide) ?_); intro K hK)
    | ((with_reducible refine AWp.dS (by kernel_rfl) Th_ok G_naP_ok [0, 1, 3] ?_); intro K hK)
    | ((with_reducible refine AWp.pE Th_ok G_naP_ok [0, 1, 3] (by decide) ?_); intro K hK)
    | ((with_reducible refine AWp.dE (by kernel_rfl) Th_ok G_naP_ok [0, 1, 3] ?_); intro K hK)
    | ((first | with_reducible refine runF_id ?_ | with_reducible refine stepF_id ?_); simp (maxSteps := 2000000) only [runF, stepF, forkOf, gdOf, List.toList_toArray, stepOp, look, opAV, pureOp, callOp, memOp, AS.ev, AS.get, AS.obj, initS, initFrom, AV.cells, AS.upd, Option.bind_some, Option.bind_none, Option.map_some, Option.map_none, Option.getD_none, Option.getD_some, ↓reduceIte, Nat.reduceEqDiff, Nat.reduceAdd, Nat.reduceMul, Nat.reduceSub, List.nil_append, List.append_nil, List.cons_append, List.map_cons, List.map_nil, true_and, and_true, AS.fin, pick, dedup, List.mem_cons, List.not_mem_nil, or_false, false_or, List.size_toArray, List.length_cons, List.length_nil, loadAV, List.drop_zero, List.drop_succ_cons, List.take_zero, List.take_succ_cons, List.getElem?_cons_zero, List.getElem?_cons_succ, List.head?_cons, List.mapM_cons, List.mapM_nil, Option.bind_eq_bind, Option.pure_def, deeps3, deep3, deep2, deep1, deeps, deeps2, mixInts, AV.plain, mk, mkD, DCon.lift, DCon.runC, ren3, ren2, ren1, numb, List.zipIdx_nil, List.zipIdx_cons, List.all_nil, List.all_cons, Nat.reduceLeDiff, List.range, List.range.loop, Ty.sz, beq_self_eq_true, Bool.and_self, and_self, Ty.ofC, AO.isDead, Nat.reduceLT, if_true, Nat.zero_add, Nat.add_zero, ite_true, Nat.le_refl, Bool.false_eq_true, reduceCtorEq, if_false, ite_false, binAV, AO.ren, AV.isCell, fillAV, List.set_cons_zero, List.set_cons_succ, Ty.cells, Ty.flat, Ty.dflt, List.getD_cons_zero, List.getD_cons_succ, Int.reduceToNat, Int.reduceSub, Int.reduceAdd, Int.reduceMul, Int.reduceNeg, forall_eq_or_imp, forall_eq, gdL, id_eq, Nat.lt_irrefl, srcOf, List.replicate_succ, List.replicate_zero, dite_true, List.isEmpty_cons, Option.isSome_some, List.length_append, List.length_singleton, bne_self_eq_false, Bool.not_true, Bool.not_false, conF, asArgs, asArg, asTy, asI1, asB1, asS1, asL1, canons, canon, Fork.true_, Fork.false_, bne, Bool.not_not, List.length_map, pickO, AS.over, TI.bl, bne_iff_ne, AS.over2, without, keys, List.mem_singleton, memOp2, memOp3, absorb, abInt, abBool, abStr, abList, gones, Int.toNat_natCast, List.take_length, subE, List.nodup_cons, List.nodup_nil, not_false_eq_true, Nat.sub_self, conR, asG, asI, asBo, asStr, asIs, asBs, asE4, asI2, asI3, asLL, asLLL, Th_int, Th_Sint, Th_bool, Th_implGroup, Th_string, G_naP, c_areExps, hL])
    | ((with_reducible refine ens_step ?_ (fun hE => ?_)); · ((repeat' with_reducible apply And.intro) <;> first | with_reducible assumption | omega | exact True.intro | with_reducible rfl | (show ByteArray.size _ ≤ _; decide) | (simp; done) | (simp; omega) | rfl))
    | ((with_reducible refine And.intro ?_ ?_); · ((repeat' with_reducible apply And.intro) <;> first | with_reducible assumption | omega | exact True.intro | with_reducible rfl | (show ByteArray.size _ ≤ _; decide) | (simp; done) | (simp; omega) | rfl))
    | ((with_reducible refine Fork.intro (fun h' => ?_) (fun h' => ?_)) <;> (try simp only [Bool.not_eq_true', Bool.not_eq_false', bne] at h') <;> (replace hL := And.intro h' hL) <;> (try simp only [decide_eq_true_eq, decide_eq_false_iff_not, beq_iff_eq, beq_eq_false_iff_ne, ne_eq] at h'))
    | (with_reducible refine AWp.skipS ?_)
    | ((with_reducible refine AWp.condT rfl ?_))
    | ((with_reducible refine AWp.condF rfl ?_))
    | (with_reducible refine AWp.condB rfl ?_)
    | (with_reducible refine AWp.ret ?_)
    | (with_reducible refine seqQ_n ?_)
    | (with_reducible refine seqQ_ret ?_)
    | (with_reducible refine blkQ_ret ?_)
    | (with_reducible refine blkQ_n ?_)
    | (with_reducible refine seqQ_exit ?_)
    | (with_reducible refine blkQ_exit ?_)
    | (with_reducible refine blkQ_other (by decide) ?_)
    | (with_reducible refine AWp.block ?_)
    | (with_reducible refine AWp.exit ?_)
    | (with_reducible refine AWp.skip ?_)
    | ((with_reducible refine EndsAt_id ?_); (try subst_vars); (try simp only [naB, hL, List.length_cons, List.length_nil, Nat.zero_add, Nat.reduceAdd, Bool.and_true, Bool.and_false, Bool.true_and, Bool.false_and, Bool.and_self, ↓reduceIte, Bool.false_eq_true, Bool.not_true, Bool.not_false, bne]); refine EndsAt.done [] (by first | exact .inr rfl | exact .inl rfl) rfl rfl ?_ ?_ <;> first | decide | (repeat' (first | rfl | apply And.intro | trivial)))
    | (with_reducible refine AWp.seq ?_)⟩
def m_naCI : List AV → Option (List (List Int) × Int × Int × Int)
  | [.sl (.list .int) xs, .fn (.func 144) [.rp [.lit (.int .i64 p), .lit (.int .i64 q), .lit (.int .i64 g)]]] => some (xs, p, q, g)
  | _ => none
noncomputable def c_naCI : Con0 := conR m_naCI fun ((xs, p, q, g) : List (List Int) × Int × Int × Int) => (xs.length ≤ 9223372036854775806 ∧ M.Grp p q g, .lit (.int .i64 (idxF (naB q) xs 0)), [])
noncomputable def G_naCI : List (FuncId × Con) := [(144, mk c_naP)]
theorem G_naCI_ok : ∀ f C, (f, C) ∈ G_naCI → C.ok Try.prog f := by
  intro f C h
  simp only [G_naCI, List.mem_cons, Prod.mk.injEq, List.not_mem_nil, or_false] at h
  obtain ⟨rfl, rfl⟩ := h
  exact ok_naP
set_option maxRecDepth 100000 in
set_option maxHeartbeats 4000000 in
theorem ok_naCI : (mk c_naCI).ok Try.prog 183 := okR (Θ := Th) (N := 19) (rs := [.tmp 4]) Th_ok Try.func183 (by kernel_rfl) rfl Try.results183 (by decide) (by kernel_rfl) (fun ((xs, p, q, g) : List (List Int) × Int × Int × Int) => [.sl (.list .int) xs, .fn (.func 144) [.rp [.lit (.int .i64 p), .lit (.int .i64 q), .lit (.int .i64 g)]]]) (fun args d h => by unfold m_naCI at h; split at h <;> cases h; rfl) fun ((xs, p, q, g) : List (List Int) × Int × Int × Int) => ⟨rfl, rfl, Nat.le_of_ble_eq_true rfl, fun hc w0 => by
  have hL := dmy_eq
  try dsimp only at hc
  try dsimp only
  obtain ⟨hxl, hcc⟩ := hc
  have hG := hcc
  refine AWp.body rfl ?_
  repeat' first
    | ((with_reducible refine hK _ _ ?_); clear hK K)
    | ((with_reducible refine hK _ _ (by kernel_rfl) ?_); clear hK K)
    | ((with_reducible refine AWp.pS Th_ok G_naCI_ok [0, 1, 4, 5, 7, 8, 9, 16] (by decide) ?_); intro K hK)
    | ((with_reducible refine AWp.dS (by kernel_rfl) Th_ok G_naCI_ok [0, 1, 4, 5, 7, 8, 9, 16] ?_); intro K hK)
    | ((with_reducible refine AWp.pE Th_ok G_naCI_ok [0, 1, 4, 5, 7, 8, 9, 16] (by decide) ?_); intro K hK)
    | ((with_reducible refine AWp.dE (by kernel_rfl) Th_ok G_naCI_ok [0, 1, 4, 5, 7, 8, 9, 16] ?_); intro K hK)
    | ((first | with_reducible refine runF_id ?_ | with_reducible refine stepF_id ?_); simp (maxSteps := 2000000) only [runF, stepF, forkOf, gdOf, List.toList_toArray, stepOp, look, opAV, pureOp, callOp, memOp, AS.ev, AS.get, AS.obj, initS, initFrom, AV.cells, AS.upd, Option.bind_some, Option.bind_none, Option.map_some, Option.map_none, Option.getD_none, Option.getD_some, ↓reduceIte, Nat.reduceEqDiff, Nat.reduceAdd, Nat.reduceMul, Nat.reduceSub, List.nil_append, List.append_nil, List.cons_append, List.map_cons, List.map_nil, true_and, and_true, AS.fin, pick, dedup, List.mem_cons, List.not_mem_nil, or_false, false_or, List.size_toArray, List.length_cons, List.length_nil, loadAV, List.drop_zero, List.drop_succ_cons, List.take_zero, List.take_succ_cons, List.getElem?_cons_zero, List.getElem?_cons_succ, List.head?_cons, List.mapM_cons, List.mapM_nil, Option.bind_eq_bind, Option.pure_def, deeps3, deep3, deep2, deep1, deeps, deeps2, mixInts, AV.plain, mk, mkD, DCon.lift, DCon.runC, ren3, ren2, ren1, numb, List.zipIdx_nil, List.zipIdx_cons, List.all_nil, List.all_cons, Nat.reduceLeDiff, List.range, List.range.loop, Ty.sz, beq_self_eq_true, Bool.and_self, and_self, Ty.ofC, AO.isDead, Nat.reduceLT, if_true, Nat.zero_add, Nat.add_zero, ite_true, Nat.le_refl, Bool.false_eq_true, reduceCtorEq, if_false, ite_false, binAV, AO.ren, AV.isCell, fillAV, List.set_cons_zero, List.set_cons_succ, Ty.cells, Ty.flat, Ty.dflt, List.getD_cons_zero, List.getD_cons_succ, Int.reduceToNat, Int.reduceSub, Int.reduceAdd, Int.reduceMul, Int.reduceNeg, forall_eq_or_imp, forall_eq, gdL, id_eq, Nat.lt_irrefl, srcOf, List.replicate_succ, List.replicate_zero, dite_true, List.isEmpty_cons, Option.isSome_some, List.length_append, List.length_singleton, bne_self_eq_false, Bool.not_true, Bool.not_false, conF, asArgs, asArg, asTy, asI1, asB1, asS1, asL1, canons, canon, Fork.true_, Fork.false_, bne, Bool.not_not, List.length_map, pickO, AS.over, TI.bl, bne_iff_ne, AS.over2, without, keys, List.mem_singleton, memOp2, memOp3, absorb, abInt, abBool, abStr, abList, gones, Int.toNat_natCast, List.take_length, subE, List.nodup_cons, List.nodup_nil, not_false_eq_true, Nat.sub_self, conR, asG, asI, asBo, asStr, asIs, asBs, asE4, asI2, asI3, asLL, asLLL, Th_int, Th_SSint, Th_Sint, G_naCI, c_naP, m_naP, hL])
    | ((with_reducible refine ens_step ?_ (fun hE => ?_)); · ((repeat' with_reducible apply And.intro) <;> first | with_reducible assumption | omega | exact True.intro | with_reducible rfl | (show ByteArray.size _ ≤ _; decide) | (simp; done) | (simp; omega) | rfl))
    | ((with_reducible refine And.intro ?_ ?_); · ((repeat' with_reducible apply And.intro) <;> first | with_reducible assumption | omega | exact True.intro | with_reducible rfl | (show ByteArray.size _ ≤ _; decide) | (simp; done) | (simp; omega) | rfl))
    | ((with_reducible refine Fork.intro (fun h' => ?_) (fun h' => ?_)) <;> (try simp only [Bool.not_eq_true', Bool.not_eq_false', bne] at h') <;> (replace hL := And.intro h' hL) <;> (try simp only [decide_eq_true_eq, decide_eq_false_iff_not, beq_iff_eq, beq_eq_false_iff_ne, ne_eq] at h') <;> (try (have hnx := ixf_next (p := naB q) (d := []) (xs := xs) (k := k) (by omega) h'; rw [hnx] at hk2)) <;> (try (have hke : k = xs.length := (by omega); subst hke)))
    | (with_reducible refine AWp.skipS ?_)
    | ((with_reducible refine AWp.condT rfl ?_))
    | ((with_reducible refine AWp.condF rfl ?_))
    | (with_reducible refine AWp.condB rfl ?_)
    | (with_reducible refine AWp.ret ?_)
    | (with_reducible refine seqQ_n ?_)
    | (with_reducible refine seqQ_ret ?_)
    | (with_reducible refine blkQ_ret ?_)
    | (with_reducible refine blkQ_n ?_)
    | (with_reducible refine seqQ_exit ?_)
    | (with_reducible refine blkQ_exit ?_)
    | (with_reducible refine blkQ_other (by decide) ?_)
    | (with_reducible refine AWp.block ?_)
    | (with_reducible refine AWp.exit ?_)
    | (with_reducible refine AWp.skip ?_)
    | ((with_reducible refine loop_id ?_); refine AWp.loopAt 2 rfl ?_; refine AWp.loopO [4, 5, 8, 9, 10, 11, 12, 13, 14, 15, 16, 17, 18] (fun k => [(8, .lit (.int .i64 (k : Nat)))]) (fun k => []) (fun k => k ≤ xs.length ∧ idxF (naB q) xs 0 = idxF (naB q) (xs.drop k) k) (fun k => xs.length - k) 0 (by exact ⟨by omega, by simp⟩) (by refine Sub.auto (by first | exact frok0 | assumption) rfl rfl ?_ ?_ <;> (try simp only [subE, AS.over2, without, keys, look, List.cons_append, List.nil_append, List.append_nil, List.mem_cons, List.not_mem_nil, or_false, or_true, true_or, false_or, Nat.reduceEqDiff, ↓reduceIte, Option.some.injEq, AV.lit.injEq, Value.int.injEq, Value.bool.injEq, AV.own.injEq, AO.row.injEq, AO.box.injEq, List.cons.injEq, AV.agg.injEq, AV.sl.injEq, true_and, and_true, and_self, heq_eq_eq, List.length_nil, List.length_cons, List.map_nil, List.take_zero, Int.natCast_add, Int.cast_ofNat_Int, Int.natCast_zero, List.length_append, List.length_map, List.length_take, Nat.zero_add]) <;> (simp)) (fun k hk_2 L2 hLoop2 => ?_); obtain ⟨hk1, hk2⟩ := hk_2)
    | ((with_reducible refine seqQ_f ?_); refine hLoop2 (k + 1) _ (by exact ⟨by omega, hk2⟩) (by omega) ?_; (refine Sub.auto (by first | exact frok0 | assumption) rfl rfl ?_ ?_ <;> (try simp only [subE, AS.over2, without, keys, look, List.cons_append, List.nil_append, List.append_nil, List.mem_cons, List.not_mem_nil, or_false, or_true, true_or, false_or, Nat.reduceEqDiff, ↓reduceIte, Option.some.injEq, AV.lit.injEq, Value.int.injEq, Value.bool.injEq, AV.own.injEq, AO.row.injEq, AO.box.injEq, List.cons.injEq, AV.agg.injEq, AV.sl.injEq, true_and, and_true, and_self, heq_eq_eq, List.length_nil, List.length_cons, List.map_nil, List.take_zero, Int.natCast_add, Int.cast_ofNat_Int, Int.natCast_zero, List.length_append, List.length_map, List.length_take, Nat.zero_add]) <;> (omega)))
    | ((with_reducible refine EndsAt_id ?_); (try subst_vars); first | (rw [hk2, ixf_hit (p := naB q) (d := []) (by omega) h']; refine EndsAt.done [] (by first | exact .inr rfl | exact .inl rfl) rfl rfl (by decide) trivial) | (rw [hk2, ixf_end]; refine EndsAt.done [] (by first | exact .inr rfl | exact .inl rfl) rfl rfl (by decide) trivial))
    | (with_reducible refine AWp.seq ?_)⟩
def m_naC : List AV → Option (List (List Int) × Int × Int × Int)
  | [.sl (.list .int) xs, .fn (.func 144) [.rp [.lit (.int .i64 p), .lit (.int .i64 q), .lit (.int .i64 g)]]] => some (xs, p, q, g)
  | _ => none
noncomputable def c_naC : Con0 := conR m_naC fun ((xs, p, q, g) : List (List Int) × Int × Int × Int) => (xs.length ≤ 9223372036854775806 ∧ M.Grp p q g, .lit (.bool (xs.any (naB q))), [])
noncomputable def G_naC : List (FuncId × Con) := [(183, mk c_naCI)]
theorem G_naC_ok : ∀ f C, (f, C) ∈ G_naC → C.ok Try.prog f := by
  intro f C h
  simp only [G_naC, List.mem_cons, Prod.mk.injEq, List.not_mem_nil, or_false] at h
  obtain ⟨rfl, rfl⟩ := h
  exact ok_naCI
set_option maxRecDepth 100000 in
set_option maxHeartbeats 4000000 in
theorem ok_naC : (mk c_naC).ok Try.prog 143 := okR (Θ := Th) (N := 9) (rs := [.tmp 4]) Th_ok Try.func143 (by kernel_rfl) rfl Try.results143 (by decide) (by kernel_rfl) (fun ((xs, p, q, g) : List (List Int) × Int × Int × Int) => [.sl (.list .int) xs, .fn (.func 144) [.rp [.lit (.int .i64 p), .lit (.int .i64 q), .lit (.int .i64 g)]]]) (fun args d h => by unfold m_naC at h; split at h <;> cases h; rfl) fun ((xs, p, q, g) : List (List Int) × Int × Int × Int) => ⟨rfl, rfl, Nat.le_of_ble_eq_true rfl, fun hc w0 => by
  have hL := dmy_eq
  try dsimp only at hc
  try dsimp only
  obtain ⟨hxl, hcc⟩ := hc
  have hG := hcc
  refine AWp.body rfl ?_
  repeat' first
    | ((with_reducible refine hK _ _ ?_); clear hK K)
    | ((with_reducible refine hK _ _ (by kernel_rfl) ?_); clear hK K)
    | ((with_reducible refine AWp.pS Th_ok G_naC_ok [0, 1, 4] (by decide) ?_); intro K hK)
    | ((with_reducible refine AWp.dS (by kernel_rfl) Th_ok G_naC_ok [0, 1, 4] ?_); intro K hK)
    | ((with_reducible refine AWp.pE Th_ok G_naC_ok [0, 1, 4] (by decide) ?_); intro K hK)
    | ((with_reducible refine AWp.dE (by kernel_rfl) Th_ok G_naC_ok [0, 1, 4] ?_); intro K hK)
    | ((first | with_reducible refine runF_id ?_ | with_reducible refine stepF_id ?_); simp (maxSteps := 2000000) only [runF, stepF, forkOf, gdOf, List.toList_toArray, stepOp, look, opAV, pureOp, callOp, memOp, AS.ev, AS.get, AS.obj, initS, initFrom, AV.cells, AS.upd, Option.bind_some, Option.bind_none, Option.map_some, Option.map_none, Option.getD_none, Option.getD_some, ↓reduceIte, Nat.reduceEqDiff, Nat.reduceAdd, Nat.reduceMul, Nat.reduceSub, List.nil_append, List.append_nil, List.cons_append, List.map_cons, List.map_nil, true_and, and_true, AS.fin, pick, dedup, List.mem_cons, List.not_mem_nil, or_false, false_or, List.size_toArray, List.length_cons, List.length_nil, loadAV, List.drop_zero, List.drop_succ_cons, List.take_zero, List.take_succ_cons, List.getElem?_cons_zero, List.getElem?_cons_succ, List.head?_cons, List.mapM_cons, List.mapM_nil, Option.bind_eq_bind, Option.pure_def, deeps3, deep3, deep2, deep1, deeps, deeps2, mixInts, AV.plain, mk, mkD, DCon.lift, DCon.runC, ren3, ren2, ren1, numb, List.zipIdx_nil, List.zipIdx_cons, List.all_nil, List.all_cons, Nat.reduceLeDiff, List.range, List.range.loop, Ty.sz, beq_self_eq_true, Bool.and_self, and_self, Ty.ofC, AO.isDead, Nat.reduceLT, if_true, Nat.zero_add, Nat.add_zero, ite_true, Nat.le_refl, Bool.false_eq_true, reduceCtorEq, if_false, ite_false, binAV, AO.ren, AV.isCell, fillAV, List.set_cons_zero, List.set_cons_succ, Ty.cells, Ty.flat, Ty.dflt, List.getD_cons_zero, List.getD_cons_succ, Int.reduceToNat, Int.reduceSub, Int.reduceAdd, Int.reduceMul, Int.reduceNeg, forall_eq_or_imp, forall_eq, gdL, id_eq, Nat.lt_irrefl, srcOf, List.replicate_succ, List.replicate_zero, dite_true, List.isEmpty_cons, Option.isSome_some, List.length_append, List.length_singleton, bne_self_eq_false, Bool.not_true, Bool.not_false, conF, asArgs, asArg, asTy, asI1, asB1, asS1, asL1, canons, canon, Fork.true_, Fork.false_, bne, Bool.not_not, List.length_map, pickO, AS.over, TI.bl, bne_iff_ne, AS.over2, without, keys, List.mem_singleton, memOp2, memOp3, absorb, abInt, abBool, abStr, abList, gones, Int.toNat_natCast, List.take_length, subE, List.nodup_cons, List.nodup_nil, not_false_eq_true, Nat.sub_self, conR, asG, asI, asBo, asStr, asIs, asBs, asE4, asI2, asI3, asLL, asLLL, Th_int, Th_SSint, G_naC, c_naCI, m_naCI, hL])
    | ((with_reducible refine ens_step ?_ (fun hE => ?_)); · ((repeat' with_reducible apply And.intro) <;> first | with_reducible assumption | omega | exact True.intro | with_reducible rfl | (show ByteArray.size _ ≤ _; decide) | (simp; done) | (simp; omega) | rfl))
    | ((with_reducible refine And.intro ?_ ?_); · ((repeat' with_reducible apply And.intro) <;> first | with_reducible assumption | omega | exact True.intro | with_reducible rfl | (show ByteArray.size _ ≤ _; decide) | (simp; done) | (simp; omega) | rfl))
    | ((with_reducible refine Fork.intro (fun h' => ?_) (fun h' => ?_)) <;> (try simp only [Bool.not_eq_true', Bool.not_eq_false', bne] at h') <;> (replace hL := And.intro h' hL) <;> (try simp only [decide_eq_true_eq, decide_eq_false_iff_not, beq_iff_eq, beq_eq_false_iff_ne, ne_eq] at h'))
    | (with_reducible refine AWp.skipS ?_)
    | ((with_reducible refine AWp.condT rfl ?_))
    | ((with_reducible refine AWp.condF rfl ?_))
    | (with_reducible refine AWp.condB rfl ?_)
    | (with_reducible refine AWp.ret ?_)
    | (with_reducible refine seqQ_n ?_)
    | (with_reducible refine seqQ_ret ?_)
    | (with_reducible refine blkQ_ret ?_)
    | (with_reducible refine blkQ_n ?_)
    | (with_reducible refine seqQ_exit ?_)
    | (with_reducible refine blkQ_exit ?_)
    | (with_reducible refine blkQ_other (by decide) ?_)
    | (with_reducible refine AWp.block ?_)
    | (with_reducible refine AWp.exit ?_)
    | (with_reducible refine AWp.skip ?_)
    | ((with_reducible refine EndsAt_id ?_); (try subst_vars); rw [← ixf_any _ xs 0]; refine EndsAt.done [] (by first | exact .inr rfl | exact .inl rfl) rfl rfl (by decide) trivial)
    | (with_reducible refine AWp.seq ?_)⟩
noncomputable def c_areAnswers : Con0 := conF [(.pair .int (.pair .int .int)), (.list (.list .int)), .int] fun (⟨⟨p, q, g⟩, an, n, _⟩ : (Int × Int × Int) × (List (List Int)) × Int × Unit) => (M.Grp p q g ∧ an.length ≤ 9223372036854775806, .lit (.bool (((an.length : Int) == n) && !(an.any (naB q)))), [])
noncomputable def G_areAnswers : List (FuncId × Con) := [(143, mk c_naC)]
theorem G_areAnswers_ok : ∀ f C, (f, C) ∈ G_areAnswers → C.ok Try.prog f := by
  intro f C h
  simp only [G_areAnswers, List.mem_cons, Prod.mk.injEq, List.not_mem_nil, or_false] at h
  obtain ⟨rfl, rfl⟩ := h
  exact ok_naC
set_option maxRecDepth 100000 in
set_option maxHeartbeats 4000000 in
theorem ok_areAnswers : (mk c_areAnswers).ok Try.prog 89 := okF (Θ := Th) (N := 17) (rs := [.tmp 6]) Th_ok Try.func89 (by kernel_rfl) rfl Try.results89 (by decide) (by kernel_rfl) fun (⟨⟨p, q, g⟩, an, n, _⟩ : (Int × Int × Int) × (List (List Int)) × Int × Unit) => ⟨rfl, rfl, Nat.le_of_ble_eq_true rfl, fun hc w0 => by
  have hL := dmy_eq
  try dsimp only at hc
  try dsimp only
  obtain ⟨hG, hba⟩ := hc
  refine AWp.body rfl ?_
  repeat' first
    | ((with_reducible refine hK _ _ ?_); clear hK K)
    | ((with_reducible refine hK _ _ (by kernel_rfl) ?_); clear hK K)
    | ((with_reducible refine AWp.pS Th_ok G_areAnswers_ok [0, 1, 2, 3, 6] (by decide) ?_); intro K hK)
    | ((with_reducible refine AWp.dS (by kernel_rfl) Th_ok G_areAnswers_ok [0, 1, 2, 3, 6] ?_); intro K hK)
    | ((with_reducible refine AWp.pE Th_ok G_areAnswers_ok [0, 1, 2, 3, 6] (by decide) ?_); intro K hK)
    | ((with_reducible refine AWp.dE (by kernel_rfl) Th_ok G_areAnswers_ok [0, 1, 2, 3, 6] ?_); intro K hK)
    | ((first | with_reducible refine runF_id ?_ | with_reducible refine stepF_id ?_); simp (maxSteps := 2000000) only [runF, stepF, forkOf, gdOf, List.toList_toArray, stepOp, look, opAV, pureOp, callOp, memOp, AS.ev, AS.get, AS.obj, initS, initFrom, AV.cells, AS.upd, Option.bind_some, Option.bind_none, Option.map_some, Option.map_none, Option.getD_none, Option.getD_some, ↓reduceIte, Nat.reduceEqDiff, Nat.reduceAdd, Nat.reduceMul, Nat.reduceSub, List.nil_append, List.append_nil, List.cons_append, List.map_cons, List.map_nil, true_and, and_true, AS.fin, pick, dedup, List.mem_cons, List.not_mem_nil, or_false, false_or, List.size_toArray, List.length_cons, List.length_nil, loadAV, List.drop_zero, List.drop_succ_cons, List.take_zero, List.take_succ_cons, List.getElem?_cons_zero, List.getElem?_cons_succ, List.head?_cons, List.mapM_cons, List.mapM_nil, Option.bind_eq_bind, Option.pure_def, deeps3, deep3, deep2, deep1, deeps, deeps2, mixInts, AV.plain, mk, mkD, DCon.lift, DCon.runC, ren3, ren2, ren1, numb, List.zipIdx_nil, List.zipIdx_cons, List.all_nil, List.all_cons, Nat.reduceLeDiff, List.range, List.range.loop, Ty.sz, beq_self_eq_true, Bool.and_self, and_self, Ty.ofC, AO.isDead, Nat.reduceLT, if_true, Nat.zero_add, Nat.add_zero, ite_true, Nat.le_refl, Bool.false_eq_true, reduceCtorEq, if_false, ite_false, binAV, AO.ren, AV.isCell, fillAV, List.set_cons_zero, List.set_cons_succ, Ty.cells, Ty.flat, Ty.dflt, List.getD_cons_zero, List.getD_cons_succ, Int.reduceToNat, Int.reduceSub, Int.reduceAdd, Int.reduceMul, Int.reduceNeg, forall_eq_or_imp, forall_eq, gdL, id_eq, Nat.lt_irrefl, srcOf, List.replicate_succ, List.replicate_zero, dite_true, List.isEmpty_cons, Option.isSome_some, List.length_append, List.length_singleton, bne_self_eq_false, Bool.not_true, Bool.not_false, conF, asArgs, asArg, asTy, asI1, asB1, asS1, asL1, canons, canon, Fork.true_, Fork.false_, bne, Bool.not_not, List.length_map, pickO, AS.over, TI.bl, bne_iff_ne, AS.over2, without, keys, List.mem_singleton, memOp2, memOp3, absorb, abInt, abBool, abStr, abList, gones, Int.toNat_natCast, List.take_length, subE, List.nodup_cons, List.nodup_nil, not_false_eq_true, Nat.sub_self, conR, asG, asI, asBo, asStr, asIs, asBs, asE4, asI2, asI3, asLL, asLLL, Th_int, Th_SSint, Th_bool, Th_implGroup, Th_string, G_areAnswers, c_naC, m_naC, hL])
    | ((with_reducible refine ens_step ?_ (fun hE => ?_)); · ((repeat' with_reducible apply And.intro) <;> first | with_reducible assumption | omega | exact True.intro | with_reducible rfl | (show ByteArray.size _ ≤ _; decide) | (simp; done) | (simp; omega) | rfl))
    | ((with_reducible refine And.intro ?_ ?_); · ((repeat' with_reducible apply And.intro) <;> first | with_reducible assumption | omega | exact True.intro | with_reducible rfl | (show ByteArray.size _ ≤ _; decide) | (simp; done) | (simp; omega) | rfl))
    | ((with_reducible refine Fork.intro (fun h' => ?_) (fun h' => ?_)) <;> (try simp only [Bool.not_eq_true', Bool.not_eq_false', bne] at h') <;> (replace hL := And.intro h' hL) <;> (try simp only [decide_eq_true_eq, decide_eq_false_iff_not, beq_iff_eq, beq_eq_false_iff_ne, ne_eq] at h'))
    | (with_reducible refine AWp.skipS ?_)
    | ((with_reducible refine AWp.condT rfl ?_))
    | ((with_reducible refine AWp.condF rfl ?_))
    | (with_reducible refine AWp.condB rfl ?_)
    | (with_reducible refine AWp.ret ?_)
    | (with_reducible refine seqQ_n ?_)
    | (with_reducible refine seqQ_ret ?_)
    | (with_reducible refine blkQ_ret ?_)
    | (with_reducible refine blkQ_n ?_)
    | (with_reducible refine seqQ_exit ?_)
    | (with_reducible refine blkQ_exit ?_)
    | (with_reducible refine blkQ_other (by decide) ?_)
    | (with_reducible refine AWp.block ?_)
    | (with_reducible refine AWp.exit ?_)
    | (with_reducible refine AWp.skip ?_)
    | ((with_reducible refine EndsAt_id ?_); (try subst_vars); (try simp only [id_eq, hL, List.length_cons, List.length_nil, Nat.zero_add, Nat.reduceAdd, Bool.and_true, Bool.and_false, Bool.true_and, Bool.false_and, Bool.and_self, ↓reduceIte, Bool.false_eq_true, Bool.not_true, Bool.not_false, bne]); refine EndsAt.done [] (by first | exact .inr rfl | exact .inl rfl) rfl rfl ?_ ?_ <;> first | decide | (repeat' (first | rfl | apply And.intro | trivial)))
    | (with_reducible refine AWp.seq ?_)⟩
noncomputable def c_kgAnswers : Con0 := conF [(.pair .int (.pair .int .int)), (.list (.pair (.list .int) (.list .int))), (.list (.list .int))] fun (⟨⟨p, q, g⟩, l, an, _⟩ : (Int × Int × Int) × (List (List Int × List Int)) × (List (List Int)) × Unit) => (l.length ≤ 9223372036854775806 ∧ an.length ≤ 9223372036854775806, .lit (.bool (okQ p q g l an)), [])
noncomputable def G_kgAnswers : List (FuncId × Con) := [(82, mk c_kgInput), (93, mk c_gExps)]
theorem G_kgAnswers_ok : ∀ f C, (f, C) ∈ G_kgAnswers → C.ok Try.prog f := by
  intro f C h
  simp only [G_kgAnswers, List.mem_cons, Prod.mk.injEq, List.not_mem_nil, or_false] at h
  rcases h with ⟨rfl, rfl⟩ | ⟨rfl, rfl⟩
  · exact ok_kgInput
  · exact ok_gExps
set_option maxRecDepth 100000 in
set_option maxHeartbeats 4000000 in
theorem ok_kgAnswers : (mk c_kgAnswers).ok Try.prog 87 := okF (Θ := Th) (N := 36) (rs := [.tmp 6]) Th_ok Try.func87 (by kernel_rfl) rfl Try.results87 (by decide) (by kernel_rfl) fun (⟨⟨p, q, g⟩, l, an, _⟩ : (Int × Int × Int) × (List (List Int × List Int)) × (List (List Int)) × Unit) => ⟨rfl, rfl, Nat.le_of_ble_eq_true rfl, fun hc w0 => by
  have hL := dmy_eq
  try dsimp only at hc
  try dsimp only
  obtain ⟨hbl, hba⟩ := hc
  refine AWp.body rfl ?_
  repeat' first
    | ((with_reducible refine hK _ _ ?_); clear hK K)
    | ((with_reducible refine hK _ _ (by kernel_rfl) ?_); clear hK K)
    | ((with_reducible refine AWp.pS Th_ok G_kgAnswers_ok [0, 1, 2, 3, 6, 8, 19, 20, 21, 22, 23, 34] (by decide) ?_); intro K hK)
    | ((with_reducible refine AWp.dS (by kernel_rfl) Th_ok G_kgAnswers_ok [0, 1, 2, 3, 6, 8, 19, 20, 21, 22, 23, 34] ?_); intro K hK)
    | ((with_reducible refine AWp.pE Th_ok G_kgAnswers_ok [0, 1, 2, 3, 6, 8, 19, 20, 21, 22, 23, 34] (by decide) ?_); intro K hK)
    | ((with_reducible refine AWp.dE (by kernel_rfl) Th_ok G_kgAnswers_ok [0, 1, 2, 3, 6, 8, 19, 20, 21, 22, 23, 34] ?_); intro K hK)
    | ((first | with_reducible refine runF_id ?_ | with_reducible refine stepF_id ?_); simp (maxSteps := 2000000) only [runF, stepF, forkOf, gdOf, List.toList_toArray, stepOp, look, opAV, pureOp, callOp, memOp, AS.ev, AS.get, AS.obj, initS, initFrom, AV.cells, AS.upd, Option.bind_some, Option.bind_none, Option.map_some, Option.map_none, Option.getD_none, Option.getD_some, ↓reduceIte, Nat.reduceEqDiff, Nat.reduceAdd, Nat.reduceMul, Nat.reduceSub, List.nil_append, List.append_nil, List.cons_append, List.map_cons, List.map_nil, true_and, and_true, AS.fin, pick, dedup, List.mem_cons, List.not_mem_nil, or_false, false_or, List.size_toArray, List.length_cons, List.length_nil, loadAV, List.drop_zero, List.drop_succ_cons, List.take_zero, List.take_succ_cons, List.getElem?_cons_zero, List.getElem?_cons_succ, List.head?_cons, List.mapM_cons, List.mapM_nil, Option.bind_eq_bind, Option.pure_def, deeps3, deep3, deep2, deep1, deeps, deeps2, mixInts, AV.plain, mk, mkD, DCon.lift, DCon.runC, ren3, ren2, ren1, numb, List.zipIdx_nil, List.zipIdx_cons, List.all_nil, List.all_cons, Nat.reduceLeDiff, List.range, List.range.loop, Ty.sz, beq_self_eq_true, Bool.and_self, and_self, Ty.ofC, AO.isDead, Nat.reduceLT, if_true, Nat.zero_add, Nat.add_zero, ite_true, Nat.le_refl, Bool.false_eq_true, reduceCtorEq, if_false, ite_false, binAV, AO.ren, AV.isCell, fillAV, List.set_cons_zero, List.set_cons_succ, Ty.cells, Ty.flat, Ty.dflt, List.getD_cons_zero, List.getD_cons_succ, Int.reduceToNat, Int.reduceSub, Int.reduceAdd, Int.reduceMul, Int.reduceNeg, forall_eq_or_imp, forall_eq, gdL, id_eq, Nat.lt_irrefl, srcOf, List.replicate_succ, List.replicate_zero, dite_true, List.isEmpty_cons, Option.isSome_some, List.length_append, List.length_singleton, bne_self_eq_false, Bool.not_true, Bool.not_false, conF, asArgs, asArg, asTy, asI1, asB1, asS1, asL1, canons, canon, Fork.true_, Fork.false_, bne, Bool.not_not, List.length_map, pickO, AS.over, TI.bl, bne_iff_ne, AS.over2, without, keys, List.mem_singleton, memOp2, memOp3, absorb, abInt, abBool, abStr, abList, gones, Int.toNat_natCast, List.take_length, subE, List.nodup_cons, List.nodup_nil, not_false_eq_true, Nat.sub_self, conR, asG, asI, asBo, asStr, asIs, asBs, asE4, asI2, asI3, asLL, asLLL, Th_int, Th_SSint, Th_Sint, Th_bool, Th_implGroup, Th_implSDealing, Th_lawsSDealing, Th_string, G_kgAnswers, c_kgInput, c_gExps, hL])
    | ((with_reducible refine ens_step ?_ (fun hE => ?_)); · ((repeat' with_reducible apply And.intro) <;> first | with_reducible assumption | omega | exact True.intro | with_reducible rfl | (show ByteArray.size _ ≤ _; decide) | (simp; done) | (simp; omega) | rfl))
    | ((with_reducible refine And.intro ?_ ?_); · ((repeat' with_reducible apply And.intro) <;> first | with_reducible assumption | omega | exact True.intro | with_reducible rfl | (show ByteArray.size _ ≤ _; decide) | (simp; done) | (simp; omega) | rfl))
    | ((with_reducible refine Fork.intro (fun h' => ?_) (fun h' => ?_)) <;> (try simp only [Bool.not_eq_true', Bool.not_eq_false', bne] at h') <;> (replace hL := And.intro h' hL) <;> (try simp only [decide_eq_true_eq, decide_eq_false_iff_not, beq_iff_eq, beq_eq_false_iff_ne, ne_eq] at h') <;> (try (have hkg := kg_use h'; obtain ⟨hsB, hds, hdn⟩ := hkg; have hsh := shB_of hsB; obtain ⟨hgd, hq7⟩ := hsh; have hG := M.goodB_of hgd; have hq2 := hG.q2; have hqp := hG.qp; have hp3 := hG.p3; have hpM := hG.pM; have hdm := hds.dim; have hdl := hds.len)) <;> (try (have hbb := any_yes (f := naB q) (getD_in [] (xs := an) (k := k) (by omega)) (naB_1 hL.1); replace hL := And.intro hbb hL)) <;> (try (have hbb := any_yes (f := naB q) (getD_in [] (xs := an) (k := k) (by omega)) (naB_2 hL.1); replace hL := And.intro hbb hL)) <;> (try (have hke : k = an.length := (by omega); subst hke; rw [List.take_length] at hk2; replace hL := And.intro hk2 hL)))
    | (with_reducible refine AWp.skipS ?_)
    | ((with_reducible refine AWp.condT rfl ?_))
    | ((with_reducible refine AWp.condF rfl ?_))
    | (with_reducible refine AWp.condB rfl ?_)
    | (with_reducible refine AWp.ret ?_)
    | (with_reducible refine seqQ_n ?_)
    | (with_reducible refine seqQ_ret ?_)
    | (with_reducible refine blkQ_ret ?_)
    | (with_reducible refine blkQ_n ?_)
    | (with_reducible refine seqQ_exit ?_)
    | (with_reducible refine blkQ_exit ?_)
    | (with_reducible refine blkQ_other (by decide) ?_)
    | (with_reducible refine AWp.block ?_)
    | (with_reducible refine AWp.exit ?_)
    | (with_reducible refine AWp.skip ?_)
    | ((with_reducible refine loop_id ?_); refine AWp.loopAt 4 rfl ?_; refine AWp.loopO [6, 8, 22, 23, 24, 25, 26, 27, 28, 29, 30, 31, 32, 33, 34, 35] (fun k => [(22, .lit (.int .i64 (k : Nat)))]) (fun k => []) (fun k => k ≤ an.length ∧ (an.take k).any (naB q) = false) (fun k => an.length - k) 0 (by exact ⟨by omega, rfl⟩) (by refine Sub.auto (by first | exact frok0 | assumption) rfl rfl ?_ ?_ <;> (try simp only [subE, AS.over2, without, keys, look, List.cons_append, List.nil_append, List.append_nil, List.mem_cons, List.not_mem_nil, or_false, or_true, true_or, false_or, Nat.reduceEqDiff, ↓reduceIte, Option.some.injEq, AV.lit.injEq, Value.int.injEq, Value.bool.injEq, AV.own.injEq, AO.row.injEq, AO.box.injEq, List.cons.injEq, AV.agg.injEq, AV.sl.injEq, true_and, and_true, and_self, heq_eq_eq, List.length_nil, List.length_cons, List.map_nil, List.take_zero, Int.natCast_add, Int.cast_ofNat_Int, Int.natCast_zero, List.length_append, List.length_map, List.length_take, Nat.zero_add]) <;> (simp)) (fun k hk_4 L4 hLoop4 => ?_); obtain ⟨hk1, hk2⟩ := hk_4)
    | ((with_reducible refine seqQ_f ?_); refine hLoop4 (k + 1) _ (by exact ⟨by omega, any_next hk2 [] (by omega) (naB_0 hL.2.1 hL.1)⟩) (by omega) ?_; (refine Sub.auto (by first | exact frok0 | assumption) rfl rfl ?_ ?_ <;> (try simp only [subE, AS.over2, without, keys, look, List.cons_append, List.nil_append, List.append_nil, List.mem_cons, List.not_mem_nil, or_false, or_true, true_or, false_or, Nat.reduceEqDiff, ↓reduceIte, Option.some.injEq, AV.lit.injEq, Value.int.injEq, Value.bool.injEq, AV.own.injEq, AO.row.injEq, AO.box.injEq, List.cons.injEq, AV.agg.injEq, AV.sl.injEq, true_and, and_true, and_self, heq_eq_eq, List.length_nil, List.length_cons, List.map_nil, List.take_zero, Int.natCast_add, Int.cast_ofNat_Int, Int.natCast_zero, List.length_append, List.length_map, List.length_take, Nat.zero_add]) <;> (omega)))
    | ((with_reducible refine EndsAt_id ?_); (try subst_vars); (try simp only [okQ, hL, List.length_cons, List.length_nil, Nat.zero_add, Nat.reduceAdd, Bool.and_true, Bool.and_false, Bool.true_and, Bool.false_and, Bool.and_self, ↓reduceIte, Bool.false_eq_true, Bool.not_true, Bool.not_false, bne]); refine EndsAt.done [] (by first | exact .inr rfl | exact .inl rfl) rfl rfl ?_ ?_ <;> first | decide | (repeat' (first | rfl | apply And.intro | trivial)))
    | (with_reducible refine AWp.seq ?_)⟩
theorem okQ_mk {p q g : Int} {l : List (List Int × List Int)} {an : List (List Int)} (h1 : kgB p q g l = true) (h2 : (((an.length : Int) == l.length) && !(an.any (naB q))) = true) : okQ p q g l an = true := by unfold okQ; rw [h1, h2]; rfl
noncomputable def c_QualifiedInI : Con0 := conF [(.pair .int (.pair .int .int)), (.list (.pair (.list .int) (.list .int))), (.list (.list .int))] fun (⟨⟨p, q, g⟩, l, an, _⟩ : (Int × Int × Int) × (List (List Int × List Int)) × (List (List Int)) × Unit) => (l.length ≤ 9223372036854775806 ∧ an.length ≤ 9223372036854775806, .tup [.own 0 (PQi p q g l an).length, .lit (.bool (okQ p q g l an))], [.row 3 .int (PQi p q g l an)])
noncomputable def G_QualifiedInI : List (FuncId × Con) := [(84, mk c_IsKeyGenInputI), (89, mk c_areAnswers), (90, mk c_qualified)]
theorem G_QualifiedInI_ok : ∀ f C, (f, C) ∈ G_QualifiedInI → C.ok Try.prog f := by
  intro f C h
  simp only [G_QualifiedInI, List.mem_cons, Prod.mk.injEq, List.not_mem_nil, or_false] at h
  rcases h with ⟨rfl, rfl⟩ | ⟨rfl, rfl⟩ | ⟨rfl, rfl⟩
  · exact ok_IsKeyGenInputI
  · exact ok_areAnswers
  · exact ok_qualified
set_option maxRecDepth 100000 in
set_option maxHeartbeats 4000000 in
theorem ok_QualifiedInI : (mk c_QualifiedInI).ok Try.prog 28 := okF (Θ := Th) (N := 24) (rs := [.tmp 6, .tmp 7]) Th_ok Try.func28 (by kernel_rfl) rfl Try.results28 (by decide) (by kernel_rfl) fun (⟨⟨p, q, g⟩, l, an, _⟩ : (Int × Int × Int) × (List (List Int × List Int)) × (List (List Int)) × Unit) => ⟨rfl, rfl, Nat.le_of_ble_eq_true rfl, fun hc w0 => by
  have hL := dmy_eq
  try dsimp only at hc
  try dsimp only
  obtain ⟨hbl, hba⟩ := hc
  refine AWp.body rfl ?_
  repeat' first
    | ((with_reducible refine hK _ _ ?_); clear hK K)
    | ((with_reducible refine hK _ _ (by kernel_rfl) ?_); clear hK K)
    | ((with_reducible refine AWp.pS Th_ok G_QualifiedInI_ok [0, 1, 2, 3, 6, 7, 19] (by decide) ?_); intro K hK)
    | ((with_reducible refine AWp.dS (by kernel_rfl) Th_ok G_QualifiedInI_ok [0, 1, 2, 3, 6, 7, 19] ?_); intro K hK)
    | ((with_reducible refine AWp.pE Th_ok G_QualifiedInI_ok [0, 1, 2, 3, 6, 7, 19] (by decide) ?_); intro K hK)
    | ((with_reducible refine AWp.dE (by kernel_rfl) Th_ok G_QualifiedInI_ok [0, 1, 2, 3, 6, 7, 19] ?_); intro K hK)
    | ((first | with_reducible refine runF_id ?_ | with_reducible refine stepF_id ?_); simp (maxSteps := 2000000) only [runF, stepF, forkOf, gdOf, List.toList_toArray, stepOp, look, opAV, pureOp, callOp, memOp, AS.ev, AS.get, AS.obj, initS, initFrom, AV.cells, AS.upd, Option.bind_some, Option.bind_none, Option.map_some, Option.map_none, Option.getD_none, Option.getD_some, ↓reduceIte, Nat.reduceEqDiff, Nat.reduceAdd, Nat.reduceMul, Nat.reduceSub, List.nil_append, List.append_nil, List.cons_append, List.map_cons, List.map_nil, true_and, and_true, AS.fin, pick, dedup, List.mem_cons, List.not_mem_nil, or_false, false_or, List.size_toArray, List.length_cons, List.length_nil, loadAV, List.drop_zero, List.drop_succ_cons, List.take_zero, List.take_succ_cons, List.getElem?_cons_zero, List.getElem?_cons_succ, List.head?_cons, List.mapM_cons, List.mapM_nil, Option.bind_eq_bind, Option.pure_def, deeps3, deep3, deep2, deep1, deeps, deeps2, mixInts, AV.plain, mk, mkD, DCon.lift, DCon.runC, ren3, ren2, ren1, numb, List.zipIdx_nil, List.zipIdx_cons, List.all_nil, List.all_cons, Nat.reduceLeDiff, List.range, List.range.loop, Ty.sz, beq_self_eq_true, Bool.and_self, and_self, Ty.ofC, AO.isDead, Nat.reduceLT, if_true, Nat.zero_add, Nat.add_zero, ite_true, Nat.le_refl, Bool.false_eq_true, reduceCtorEq, if_false, ite_false, binAV, AO.ren, AV.isCell, fillAV, List.set_cons_zero, List.set_cons_succ, Ty.cells, Ty.flat, Ty.dflt, List.getD_cons_zero, List.getD_cons_succ, Int.reduceToNat, Int.reduceSub, Int.reduceAdd, Int.reduceMul, Int.reduceNeg, forall_eq_or_imp, forall_eq, gdL, id_eq, Nat.lt_irrefl, srcOf, List.replicate_succ, List.replicate_zero, dite_true, List.isEmpty_cons, Option.isSome_some, List.length_append, List.length_singleton, bne_self_eq_false, Bool.not_true, Bool.not_false, conF, asArgs, asArg, asTy, asI1, asB1, asS1, asL1, canons, canon, Fork.true_, Fork.false_, bne, Bool.not_not, List.length_map, pickO, AS.over, TI.bl, bne_iff_ne, AS.over2, without, keys, List.mem_singleton, memOp2, memOp3, absorb, abInt, abBool, abStr, abList, gones, Int.toNat_natCast, List.take_length, subE, List.nodup_cons, List.nodup_nil, not_false_eq_true, Nat.sub_self, conR, asG, asI, asBo, asStr, asIs, asBs, asE4, asI2, asI3, asLL, asLLL, Th_int, Th_SSint, Th_bool, Th_implGroup, Th_implPartial, Th_implSDealing, Th_lawsGroup, Th_string, G_QualifiedInI, c_IsKeyGenInputI, c_areAnswers, c_qualified, hL])
    | ((with_reducible refine ens_step ?_ (fun hE => ?_)); · ((repeat' with_reducible apply And.intro) <;> first | with_reducible assumption | omega | exact True.intro | with_reducible rfl | (show ByteArray.size _ ≤ _; decide) | (simp; done) | (simp; omega) | rfl))
    | ((with_reducible refine And.intro ?_ ?_); · ((repeat' with_reducible apply And.intro) <;> first | with_reducible assumption | omega | exact True.intro | with_reducible rfl | (show ByteArray.size _ ≤ _; decide) | (simp; done) | (simp; omega) | rfl))
    | ((with_reducible refine Fork.intro (fun h' => ?_) (fun h' => ?_)) <;> (try simp only [Bool.not_eq_true', Bool.not_eq_false', bne] at h') <;> (replace hL := And.intro h' hL) <;> (try simp only [decide_eq_true_eq, decide_eq_false_iff_not, beq_iff_eq, beq_eq_false_iff_ne, ne_eq] at h') <;> (try (have hkg := kg_use h'; obtain ⟨hsB, hds, hdn⟩ := hkg; have hsh := shB_of hsB; obtain ⟨hgd, hq7⟩ := hsh; have hG := M.goodB_of hgd; have hq2 := hG.q2; have hqp := hG.qp; have hp3 := hG.p3; have hpM := hG.pM; have hdm := hds.dim; have hdl := hds.len)) <;> (try (have hoi := okQ_mk hL.2.1 hL.1; have hkq := okQ_use hoi; obtain ⟨hkg, hQ⟩ := hkq)))
    | (with_reducible refine AWp.skipS ?_)
    | ((with_reducible refine AWp.condT rfl ?_))
    | ((with_reducible refine AWp.condF rfl ?_))
    | (with_reducible refine AWp.condB rfl ?_)
    | ((with_reducible refine AWp.ret_id ?_); refine AWp.sub (Sub.nilSlot 6 200006 3 .int rfl rfl) ?_)
    | (with_reducible refine AWp.ret ?_)
    | (with_reducible refine seqQ_n ?_)
    | (with_reducible refine seqQ_ret ?_)
    | (with_reducible refine blkQ_ret ?_)
    | (with_reducible refine blkQ_n ?_)
    | (with_reducible refine seqQ_exit ?_)
    | (with_reducible refine blkQ_exit ?_)
    | (with_reducible refine blkQ_other (by decide) ?_)
    | (with_reducible refine AWp.block ?_)
    | (with_reducible refine AWp.exit ?_)
    | (with_reducible refine AWp.skip ?_)
    | ((with_reducible refine EndsAt_id ?_); (try subst_vars); (try simp only [PQi, okQ, hL, List.length_cons, List.length_nil, Nat.zero_add, Nat.reduceAdd, Bool.and_true, Bool.and_false, Bool.true_and, Bool.false_and, Bool.and_self, ↓reduceIte, Bool.false_eq_true, Bool.not_true, Bool.not_false, bne]); refine EndsAt.done [_] (by first | exact .inr rfl | exact .inl rfl) rfl rfl ?_ ?_ <;> first | decide | (repeat' (first | rfl | apply And.intro | trivial)))
    | (with_reducible refine AWp.seq ?_)⟩
noncomputable def c_QualifiedInS : Con0 := conF [(.pair .int (.pair .int .int)), (.list (.pair (.list .int) (.list .int))), (.list (.list .int))] fun (⟨⟨p, q, g⟩, l, an, _⟩ : (Int × Int × Int) × (List (List Int × List Int)) × (List (List Int)) × Unit) => (l.length ≤ 9223372036854775806 ∧ an.length ≤ 9223372036854775806, .tup [.own 0 (PQi p q g l an).length, .lit (.bool (okQ p q g l an))], [.row 3 .int (PQi p q g l an)])
noncomputable def G_QualifiedInS : List (FuncId × Con) := [(87, mk c_kgAnswers), (88, mk c_kgQualified)]
theorem G_QualifiedInS_ok : ∀ f C, (f, C) ∈ G_QualifiedInS → C.ok Try.prog f := by
  intro f C h
  simp only [G_QualifiedInS, List.mem_cons, Prod.mk.injEq, List.not_mem_nil, or_false] at h
  rcases h with ⟨rfl, rfl⟩ | ⟨rfl, rfl⟩
  · exact ok_kgAnswers
  · exact ok_kgQualified
set_option maxRecDepth 100000 in
set_option maxHeartbeats 4000000 in
theorem ok_QualifiedInS : (mk c_QualifiedInS).ok Try.prog 26 := okF (Θ := Th) (N := 23) (rs := [.tmp 6, .tmp 7]) Th_ok Try.func26 (by kernel_rfl) rfl Try.results26 (by decide) (by kernel_rfl) fun (⟨⟨p, q, g⟩, l, an, _⟩ : (Int × Int × Int) × (List (List Int × List Int)) × (List (List Int)) × Unit) => ⟨rfl, rfl, Nat.le_of_ble_eq_true rfl, fun hc w0 => by
  have hL := dmy_eq
  try dsimp only at hc
  try dsimp only
  obtain ⟨hbl, hba⟩ := hc
  refine AWp.body rfl ?_
  repeat' first
    | ((with_reducible refine hK _ _ ?_); clear hK K)
    | ((with_reducible refine hK _ _ (by kernel_rfl) ?_); clear hK K)
    | ((with_reducible refine AWp.pS Th_ok G_QualifiedInS_ok [0, 1, 2, 3, 6, 7, 8, 14] (by decide) ?_); intro K hK)
    | ((with_reducible refine AWp.dS (by kernel_rfl) Th_ok G_QualifiedInS_ok [0, 1, 2, 3, 6, 7, 8, 14] ?_); intro K hK)
    | ((with_reducible refine AWp.pE Th_ok G_QualifiedInS_ok [0, 1, 2, 3, 6, 7, 8, 14] (by decide) ?_); intro K hK)
    | ((with_reducible refine AWp.dE (by kernel_rfl) Th_ok G_QualifiedInS_ok [0, 1, 2, 3, 6, 7, 8, 14] ?_); intro K hK)
    | ((first | with_reducible refine runF_id ?_ | with_reducible refine stepF_id ?_); simp (maxSteps := 2000000) only [runF, stepF, forkOf, gdOf, List.toList_toArray, stepOp, look, opAV, pureOp, callOp, memOp, AS.ev, AS.get, AS.obj, initS, initFrom, AV.cells, AS.upd, Option.bind_some, Option.bind_none, Option.map_some, Option.map_none, Option.getD_none, Option.getD_some, ↓reduceIte, Nat.reduceEqDiff, Nat.reduceAdd, Nat.reduceMul, Nat.reduceSub, List.nil_append, List.append_nil, List.cons_append, List.map_cons, List.map_nil, true_and, and_true, AS.fin, pick, dedup, List.mem_cons, List.not_mem_nil, or_false, false_or, List.size_toArray, List.length_cons, List.length_nil, loadAV, List.drop_zero, List.drop_succ_cons, List.take_zero, List.take_succ_cons, List.getElem?_cons_zero, List.getElem?_cons_succ, List.head?_cons, List.mapM_cons, List.mapM_nil, Option.bind_eq_bind, Option.pure_def, deeps3, deep3, deep2, deep1, deeps, deeps2, mixInts, AV.plain, mk, mkD, DCon.lift, DCon.runC, ren3, ren2, ren1, numb, List.zipIdx_nil, List.zipIdx_cons, List.all_nil, List.all_cons, Nat.reduceLeDiff, List.range, List.range.loop, Ty.sz, beq_self_eq_true, Bool.and_self, and_self, Ty.ofC, AO.isDead, Nat.reduceLT, if_true, Nat.zero_add, Nat.add_zero, ite_true, Nat.le_refl, Bool.false_eq_true, reduceCtorEq, if_false, ite_false, binAV, AO.ren, AV.isCell, fillAV, List.set_cons_zero, List.set_cons_succ, Ty.cells, Ty.flat, Ty.dflt, List.getD_cons_zero, List.getD_cons_succ, Int.reduceToNat, Int.reduceSub, Int.reduceAdd, Int.reduceMul, Int.reduceNeg, forall_eq_or_imp, forall_eq, gdL, id_eq, Nat.lt_irrefl, srcOf, List.replicate_succ, List.replicate_zero, dite_true, List.isEmpty_cons, Option.isSome_some, List.length_append, List.length_singleton, bne_self_eq_false, Bool.not_true, Bool.not_false, conF, asArgs, asArg, asTy, asI1, asB1, asS1, asL1, canons, canon, Fork.true_, Fork.false_, bne, Bool.not_not, List.length_map, pickO, AS.over, TI.bl, bne_iff_ne, AS.over2, without, keys, List.mem_singleton, memOp2, memOp3, absorb, abInt, abBool, abStr, abList, gones, Int.toNat_natCast, List.take_length, subE, List.nodup_cons, List.nodup_nil, not_false_eq_true, Nat.sub_self, conR, asG, asI, asBo, asStr, asIs, asBs, asE4, asI2, asI3, asLL, asLLL, Th_int, Th_SSint, Th_bool, Th_implGroup, Th_implSDealing, Th_lawsCipher, G_QualifiedInS, c_kgAnswers, c_kgQualified, hL])
    | ((with_reducible refine ens_step ?_ (fun hE => ?_)); · ((repeat' with_reducible apply And.intro) <;> first | with_reducible assumption | omega | exact True.intro | with_reducible rfl | (show ByteArray.size _ ≤ _; decide) | (simp; done) | (simp; omega) | rfl))
    | ((with_reducible refine And.intro ?_ ?_); · ((repeat' with_reducible apply And.intro) <;> first | with_reducible assumption | omega | exact True.intro | with_reducible rfl | (show ByteArray.size _ ≤ _; decide) | (simp; done) | (simp; omega) | rfl))
    | ((with_reducible refine Fork.intro (fun h' => ?_) (fun h' => ?_)) <;> (try simp only [Bool.not_eq_true', Bool.not_eq_false', bne] at h') <;> (replace hL := And.intro h' hL) <;> (try simp only [decide_eq_true_eq, decide_eq_false_iff_not, beq_iff_eq, beq_eq_false_iff_ne, ne_eq] at h') <;> (try (have hoq : okQ p q g l an = true := h'; have hkq := okQ_use hoq; obtain ⟨hkg, hQ⟩ := hkq; have hku := kg_use hkg; obtain ⟨hsB, hds, hdn⟩ := hku; have hsh := shB_of hsB; obtain ⟨hgd, hq7⟩ := hsh; have hG := M.goodB_of hgd)))
    | (with_reducible refine AWp.skipS ?_)
    | ((with_reducible refine AWp.condT rfl ?_))
    | ((with_reducible refine AWp.condF rfl ?_))
    | (with_reducible refine AWp.condB rfl ?_)
    | ((with_reducible refine AWp.ret_id ?_); refine AWp.sub (Sub.nilSlot 6 200006 3 .int rfl rfl) ?_)
    | (with_reducible refine AWp.ret ?_)
    | (with_reducible refine seqQ_n ?_)
    | (with_reducible refine seqQ_ret ?_)
    | (with_reducible refine blkQ_ret ?_)
    | (with_reducible refine blkQ_n ?_)
    | (with_reducible refine seqQ_exit ?_)
    | (with_reducible refine blkQ_exit ?_)
    | (with_reducible refine blkQ_other (by decide) ?_)
    | (with_reducible refine AWp.block ?_)
    | (with_reducible refine AWp.exit ?_)
    | (with_reducible refine AWp.skip ?_)
    | ((with_reducible refine EndsAt_id ?_); (try subst_vars); (try simp only [PQi, hL, List.length_cons, List.length_nil, Nat.zero_add, Nat.reduceAdd, Bool.and_true, Bool.and_false, Bool.true_and, Bool.false_and, Bool.and_self, ↓reduceIte, Bool.false_eq_true, Bool.not_true, Bool.not_false, bne]); refine EndsAt.done [_] (by first | exact .inr rfl | exact .inl rfl) rfl rfl ?_ ?_ <;> first | decide | (repeat' (first | rfl | apply And.intro | trivial)))
    | (with_reducible refine AWp.seq ?_)⟩
end Go.Proofs.Ytlggpehioflbdaa
