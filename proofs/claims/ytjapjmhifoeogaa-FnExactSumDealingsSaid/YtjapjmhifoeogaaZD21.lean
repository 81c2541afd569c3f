import Derived.Test.YtjapjmhifoeogaaZD20
/- Products of polynomials, zero dealings, bad shares. -/
set_option linter.all false
set_option linter.unusedVariables false
set_option linter.unusedSimpArgs false
namespace Go.Proofs.Ytjapjmhifoeogaa
open Go.RowKit
/-- products of polynomials -/
def mulIn (q a : Int) (i : Nat) : List Int → Nat → List Int → List Int
  | [], _, out => out
  | b :: l, k, out => mulIn q a i l (k + 1) (out.set (i + k) ((out.getD (i + k) 0 + a * b) % q))
def mulOut (q : Int) (g : List Int) : List Int → Nat → List Int → List Int
  | [], _, out => out
  | a :: l, i, out => mulOut q g l (i + 1) (mulIn q a i g 0 out)
def mulP (q : Int) (f g : List Int) : List Int := mulOut q g f 0 (List.replicate (f.length + g.length - 1) 0)
theorem mulIn_at {q a : Int} {i k : Nat} {g out : List Int} (h : k < g.length) : mulIn q a i (g.drop k) k out = mulIn q a i (g.drop (k + 1)) (k + 1) (out.set (i + k) ((out.getD (i + k) 0 + a * g.getD k 0) % q)) := by
  rw [drop_at 0 h]; rfl
theorem mulOut_at {q : Int} {i : Nat} {f g out : List Int} (h : i < f.length) : mulOut q g (f.drop i) i out = mulOut q g (f.drop (i + 1)) (i + 1) (mulIn q (f.getD i 0) i g 0 out) := by
  rw [drop_at 0 h]; rfl
theorem mulIn_end {q a : Int} {i k : Nat} {g out : List Int} : mulIn q a i (g.drop g.length) k out = out := by simp [mulIn]
theorem mulOut_end {q : Int} {i : Nat} {f g out : List Int} : mulOut q g (f.drop f.length) i out = out := by simp [mulOut]
theorem set_bd {q v : Int} {out : List Int} {j : Nat} (h : ∀ x ∈ out, 0 ≤ x ∧ x < q) (hv : 0 ≤ v ∧ v < q) : ∀ x ∈ out.set j v, 0 ≤ x ∧ x < q := fun x hx => by
  rcases List.mem_or_eq_of_mem_set hx with hx | rfl
  · exact h x hx
  · exact hv
theorem mulIn_ok {q a : Int} (hq : 2 ≤ q) {i : Nat} : ∀ (g : List Int) (k : Nat) (out : List Int), (∀ x ∈ out, 0 ≤ x ∧ x < q) → (mulIn q a i g k out).length = out.length ∧ ∀ x ∈ mulIn q a i g k out, 0 ≤ x ∧ x < q
  | [], _, out, h => ⟨rfl, h⟩
  | b :: l, k, out, h => by
    have := mulIn_ok (a := a) hq (i := i) l (k + 1) _ (set_bd (j := i + k) h (emod_bd (n := out.getD (i + k) 0 + a * b) (q := q) (by omega)))
    rw [List.length_set] at this
    exact this
theorem mulOut_ok {q : Int} (hq : 2 ≤ q) {g : List Int} : ∀ (f : List Int) (i : Nat) (out : List Int), (∀ x ∈ out, 0 ≤ x ∧ x < q) → (mulOut q g f i out).length = out.length ∧ ∀ x ∈ mulOut q g f i out, 0 ≤ x ∧ x < q
  | [], _, out, h => ⟨rfl, h⟩
  | a :: l, i, out, h => by
    have h1 := mulIn_ok (a := a) hq (i := i) g 0 out h
    have := mulOut_ok hq (g := g) l (i + 1) _ h1.2
    rw [h1.1] at this
    exact this
theorem repl_bd {q : Int} (hq : 2 ≤ q) {n : Nat} : ∀ x ∈ List.replicate n (0 : Int), 0 ≤ x ∧ x < q := fun x hx => by rw [(List.mem_replicate.1 hx).2]; omega
theorem mulP_ok {q : Int} (hq : 2 ≤ q) {f g : List Int} : (mulP q f g).length = f.length + g.length - 1 ∧ ∀ x ∈ mulP q f g, 0 ≤ x ∧ x < q := by
  have := mulOut_ok hq (g := g) f 0 _ (repl_bd (n := f.length + g.length - 1) hq)
  rw [List.length_replicate] at this
  exact this
theorem add_mod_r {a b q : Int} : (a + b % q) % q = (a + b) % q := by rw [Int.add_comm, Int.emod_add_emod, Int.add_comm]
noncomputable def c_mulPolys : Con0 := conF [.int, (.list .int), (.list .int)] fun (⟨q, f, g, _⟩ : Int × (List Int) × (List Int) × Unit) => ((2 ≤ q ∧ q ≤ 2000000000) ∧ (∀ x ∈ f, 0 ≤ x ∧ x < q) ∧ (∀ x ∈ g, 0 ≤ x ∧ x < q) ∧ (1 ≤ f.length ∧ f.length ≤ 100) ∧ (1 ≤ g.length ∧ g.length ≤ 100), .own 0 (f.length + g.length - 1), [.row 3 .int (mulP q f g)])
noncomputable def G_mulPolys : List (FuncId × Con) := []
theorem G_mulPolys_ok : ∀ f C, (f, C) ∈ G_mulPolys → C.ok Try.prog f := by
  intro f C h
  simp only [G_mulPolys, List.mem_cons, Prod.mk.injEq, List.not_mem_nil, or_false] at h
set_option maxRecDepth 100000 in
set_option maxHeartbeats 4000000 in
theorem ok_mulPolys : (mk c_mulPolys).ok Try.prog 111 := okF (Θ := Th) (N := 63) (rs := [.tmp 6]) Th_ok Try.func111 (by kernel_rfl) rfl Try.results111 (by decide) (by kernel_rfl) fun (⟨q, f, g, _⟩ : Int × (List Int) × (List Int) × Unit) => ⟨rfl, rfl, Nat.le_of_ble_eq_true rfl, fun hc w0 => by
  have hL := dmy_eq
  try dsimp only at hc
  try dsimp only
  obtain ⟨⟨hq2, hqM⟩, hf, hg, ⟨hf1, hf2⟩, ⟨hg1, hg2⟩⟩ := hc
  have ht : ((f.length : Int) + g.length - 1).toNat = f.length + g.length - 1 := by omega
  replace hL := And.intro ht hL
  have hres := (mulP_ok hq2 (f := f) (g := g)).1
  refine AWp.body rfl ?_
  repeat' first
    | ((with_reducible refine hK _ _ ?_); clear hK K)
    | ((with_reducible refine hK _ _ (by kernel_rfl) ?_); clear hK K)
    | ((with_reducible refine AWp.pS Th_ok G_mulPolys_ok [0, 1, 2, 6, 7, 8, 9, 10, 11, 19, 27, 28, 29, 30, 34, 35, 36, 37] (by decide) ?_); intro K hK)
    | ((with_reducible refine AWp.dS (by kernel_rfl) Th_ok G_mulPolys_ok [0, 1, 2, 6, 7, 8, 9, 10, 11, 19, 27, 28, 29, 30, 34, 35, 36, 37] ?_); intro K hK)
    | ((with_reducible refine AWp.pE Th_ok G_mulPolys_ok [0, 1, 2, 6, 7, 8, 9, 10, 11, 19, 27, 28, 29, 30, 34, 35, 36, 37] (by decide) ?_); intro K hK)
    | ((with_reducible refine AWp.dE (by kernel_rfl) Th_ok G_mulPolys_ok [0, 1, 2, 6, 7, 8, 9, 10, 11, 19, 27, 28, 29, 30, 34, 35, 36, 37] ?_); intro K hK)
    | ((first | with_reducible refine runF_id ?_ | with_reducible refine stepF_id ?_); simp (maxSteps := 2000000) only [runF, stepF, forkOf, gdOf, List.toList_toArray, stepOp, look, opAV, pureOp, callOp, memOp, AS.ev, AS.get, AS.obj, initS, initFrom, AV.cells, AS.upd, Option.bind_some, Option.bind_none, Option.map_some, Option.map_none, Option.getD_none, Option.getD_some, ↓reduceIte, Nat.reduceEqDiff, Nat.reduceAdd, Nat.reduceMul, Nat.reduceSub, List.nil_append, List.append_nil, List.cons_append, List.map_cons, List.map_nil, true_and, and_true, AS.fin, pick, dedup, List.mem_cons, List.not_mem_nil, or_false, false_or, List.size_toArray, List.length_cons, List.length_nil, loadAV, List.drop_zero, List.drop_succ_cons, List.take_zero, List.take_succ_cons, List.getElem?_cons_zero, List.getElem?_cons_succ, List.head?_cons, List.mapM_cons, List.mapM_nil, Option.bind_eq_bind, Option.pure_def, deeps3, deep3, deep2, deep1, deeps, deeps2, mixInts, AV.plain, mk, mkD, DCon.lift, DCon.runC, ren3, ren2, ren1, numb, List.zipIdx_nil, List.zipIdx_cons, List.all_nil, List.all_cons, Nat.reduceLeDiff, List.range, List.range.loop, Ty.sz, beq_self_eq_true, Bool.and_self, and_self, Ty.ofC, AO.isDead, Nat.reduceLT, if_true, Nat.zero_add, Nat.add_zero, ite_true, Nat.le_refl, Bool.false_eq_true, reduceCtorEq, if_false, ite_false, binAV, AO.ren, AV.isCell, fillAV, List.set_cons_zero, List.set_cons_succ, Ty.cells, Ty.flat, Ty.dflt, List.getD_cons_zero, List.getD_cons_succ, Int.reduceToNat, Int.reduceSub, Int.reduceAdd, Int.reduceMul, Int.reduceNeg, forall_eq_or_imp, forall_eq, gdL, id_eq, Nat.lt_irrefl, srcOf, List.replicate_succ, List.replicate_zero, dite_true, List.isEmpty_cons, Option.isSome_some, List.length_append, List.length_singleton, bne_self_eq_false, Bool.not_true, Bool.not_false, conF, asArgs, asArg, asTy, asI1, asB1, asS1, asL1, canons, canon, Fork.true_, Fork.false_, bne, Bool.not_not, List.length_map, pickO, AS.over, TI.bl, bne_iff_ne, AS.over2, without, keys, List.mem_singleton, memOp2, memOp3, absorb, abInt, abBool, abStr, abList, gones, Int.toNat_natCast, List.take_length, subE, List.nodup_cons, List.nodup_nil, not_false_eq_true, Nat.sub_self, conR, asG, asI, asBo, asStr, asIs, asBs, asE4, asI2, asI3, asLL, asLLL, Th_int, Th_Sint, Th_implBases, Th_implDealing, Th_implGroup, Th_lawsDealing, Th_lawsEqualLog, Th_lawsGroup, Th_lawsSDealing, Th_string, G_mulPolys, hL])
    | ((with_reducible refine ens_step ?_ (fun hE => ?_)); · ((repeat' with_reducible apply And.intro) <;> first | with_reducible assumption | omega | exact True.intro | with_reducible rfl | (show ByteArray.size _ ≤ _; decide) | (simp; done) | (simp; omega) | rfl))
    | ((with_reducible refine And.intro ?_ ?_); · ((repeat' with_reducible apply And.intro) <;> first | with_reducible assumption | omega | exact True.intro | with_reducible rfl | (show ByteArray.size _ ≤ _; decide) | (simp; done) | (simp; omega) | rfl))
    | ((with_reducible refine Fork.intro (fun h' => ?_) (fun h' => ?_)) <;> (try simp only [Bool.not_eq_true', Bool.not_eq_false', bne] at h') <;> (replace hL := And.intro h' hL) <;> (try simp only [decide_eq_true_eq, decide_eq_false_iff_not, beq_iff_eq, beq_eq_false_iff_ne, ne_eq] at h') <;> (try (exfalso; omega)) <;> (try (have hij : ((i : Int) + (k : Int)).toNat = i + k := (by omega); have hak := getD_bd' hf (k := i) (by omega); have hbk := getD_bd' hg (k := k) (by omega); have hok := getD_bd' hy4 (k := i + k) (by omega); have hmb := mul_bd (a := f.getD i 0) (b := g.getD k 0) (by omega) (by omega); have hrb := emod_bd (n := f.getD i 0 * g.getD k 0) (q := q) (by omega); have hml : (out2.getD (i + k) 0 + f.getD i 0 * g.getD k 0 % q) % q = (out2.getD (i + k) 0 + f.getD i 0 * g.getD k 0) % q := add_mod_r; have hvb := emod_bd (n := out2.getD (i + k) 0 + f.getD i 0 * g.getD k 0) (q := q) (by omega); rw [mulIn_at (by omega)] at hy2; replace hL := And.intro hml (And.intro hij hL))) <;> (try (have hke : k = g.length := (by omega); subst hke; rw [mulIn_end] at hy2; subst hy2)) <;> (try (have hie : i = f.length := (by omega); subst hie; rw [mulOut_end] at hz2; replace hz2 : out = mulP q f g := hz2; subst hz2)) <;> (try (rw [mulOut_at (by omega)] at hz2; have hmi := (mulIn_ok (a := f.getD i 0) (i := i) hq2 g 0 out hz4).2; have hmil := (mulIn_ok (a := f.getD i 0) (i := i) hq2 g 0 out hz4).1)))
    | (with_reducible refine AWp.skipS ?_)
    | ((with_reducible refine AWp.condT rfl ?_))
    | ((with_reducible refine AWp.condF rfl ?_))
    | (with_reducible refine AWp.condB rfl ?_)
    | (with_reducible refine AWp.ret ?_)
    | (with_reducible refine seqQ_n ?_)
    | (with_reducible refine seqQ_ret ?_)
    | (with_reducible refine blkQ_ret ?_)
    | (with_reducible refine blkQ_n ?_)
    | (with_reducible refine seqQ_exit ?_)
    | (with_reducible refine blkQ_exit ?_)
    | (with_reducible refine blkQ_other (by decide) ?_)
    | (with_reducible refine AWp.block ?_)
    | (with_reducible refine AWp.exit ?_)
    | (with_reducible refine AWp.skip ?_)
    | ((with_reducible refine loop_id ?_); refine AWp.loopAt 5 rfl ?_; refine AWp.loopO [8, 9, 10, 11, 29, 30, 31, 32, 33, 34, 35, 36, 37, 38, 39, 40, 41, 42, 43, 44, 45, 46, 47, 48, 49, 50, 51, 52, 53, 54, 55, 56, 57, 58, 59, 60, 61] (fun z : Nat × List Int => [(29, .lit (.int .i64 (z.1 : Nat)))]) (fun z => [(120, .row 3 .int z.2)]) (fun z => z.1 ≤ f.length ∧ mulOut q g (f.drop z.1) z.1 z.2 = mulP q f g ∧ z.2.length = f.length + g.length - 1 ∧ ∀ x ∈ z.2, 0 ≤ x ∧ x < q) (fun z => f.length - z.1) (0, List.replicate (f.length + g.length - 1) 0) (by (try dsimp only); exact ⟨by omega, rfl, by simp, repl_bd hq2⟩) (by refine Sub.auto (by first | exact frok0 | assumption) rfl rfl ?_ ?_ <;> (try simp only [subE, AS.over2, without, keys, look, List.cons_append, List.nil_append, List.append_nil, List.mem_cons, List.not_mem_nil, or_false, or_true, true_or, false_or, Nat.reduceEqDiff, ↓reduceIte, Option.some.injEq, AV.lit.injEq, Value.int.injEq, Value.bool.injEq, AV.own.injEq, AO.row.injEq, AO.box.injEq, List.cons.injEq, AV.agg.injEq, AV.sl.injEq, true_and, and_true, and_self, heq_eq_eq, List.length_nil, List.length_cons, List.map_nil, List.take_zero, Int.natCast_add, Int.cast_ofNat_Int, Int.natCast_zero, List.length_append, List.length_map, List.length_take, Nat.zero_add]) <;> (simp)) (fun z hz5 L5 hLoop5 => ?_); obtain ⟨i, out⟩ := z; (try dsimp only at hz5); obtain ⟨hz1, hz2, hz3, hz4⟩ := hz5)
    | ((with_reducible refine seqQ_f ?_); refine hLoop5 (i + 1, mulIn q (f.getD i 0) i g 0 out) _ (by (try dsimp only); exact ⟨by omega, hz2, by rw [hmil]; exact hz3, hmi⟩) (by (try dsimp only); omega) ?_; (refine Sub.auto (by first | exact frok0 | assumption) rfl rfl ?_ ?_ <;> (try simp only [subE, AS.over2, without, keys, look, List.cons_append, List.nil_append, List.append_nil, List.mem_cons, List.not_mem_nil, or_false, or_true, true_or, false_or, Nat.reduceEqDiff, ↓reduceIte, Option.some.injEq, AV.lit.injEq, Value.int.injEq, Value.bool.injEq, AV.own.injEq, AO.row.injEq, AO.box.injEq, List.cons.injEq, AV.agg.injEq, AV.sl.injEq, true_and, and_true, and_self, heq_eq_eq, List.length_nil, List.length_cons, List.map_nil, List.take_zero, Int.natCast_add, Int.cast_ofNat_Int, Int.natCast_zero, List.length_append, List.length_map, List.length_take, Nat.zero_add]) <;> ((repeat' apply And.intro) <;> first | rfl | omega | (simp; done))))
    | ((with_reducible refine loop_id ?_); refine AWp.loopAt 8 rfl ?_; refine AWp.loopO [10, 11, 36, 37, 38, 39, 40, 41, 42, 43, 44, 45, 46, 47, 48, 49, 50, 51, 52, 53, 54, 55, 56, 57, 58, 59, 60] (fun z : Nat × List Int => [(36, .lit (.int .i64 (z.1 : Nat)))]) (fun z => [(120, .row 3 .int z.2)]) (fun z => z.1 ≤ g.length ∧ mulIn q (f.getD i 0) i (g.drop z.1) z.1 z.2 = mulIn q (f.getD i 0) i g 0 out ∧ z.2.length = f.length + g.length - 1 ∧ ∀ x ∈ z.2, 0 ≤ x ∧ x < q) (fun z => g.length - z.1) (0, out) (by (try dsimp only); exact ⟨by omega, by simp, hz3, hz4⟩) (by refine Sub.auto (by first | exact frok0 | assumption) rfl rfl ?_ ?_ <;> (try simp only [subE, AS.over2, without, keys, look, List.cons_append, List.nil_append, List.append_nil, List.mem_cons, List.not_mem_nil, or_false, or_true, true_or, false_or, Nat.reduceEqDiff, ↓reduceIte, Option.some.injEq, AV.lit.injEq, Value.int.injEq, Value.bool.injEq, AV.own.injEq, AO.row.injEq, AO.box.injEq, List.cons.injEq, AV.agg.injEq, AV.sl.injEq, true_and, and_true, and_self, heq_eq_eq, List.length_nil, List.length_cons, List.map_nil, List.take_zero, Int.natCast_add, Int.cast_ofNat_Int, Int.natCast_zero, List.length_append, List.length_map, List.length_take, Nat.zero_add]) <;> (simp)) (fun z hz8 L8 hLoop8 => ?_); obtain ⟨k, out2⟩ := z; (try dsimp only at hz8); obtain ⟨hy1, hy2, hy3, hy4⟩ := hz8)
    | ((with_reducible refine seqQ_f ?_); refine hLoop8 (k + 1, out2.set (i + k) ((out2.getD (i + k) 0 + f.getD i 0 * g.getD k 0) % q)) _ (by (try dsimp only); exact ⟨by omega, hy2, by rw [List.length_set]; exact hy3, set_bd hy4 hvb⟩) (by (try dsimp only); omega) ?_; (refine Sub.auto (by first | exact frok0 | assumption) rfl rfl ?_ ?_ <;> (try simp only [subE, AS.over2, without, keys, look, List.cons_append, List.nil_append, List.append_nil, List.mem_cons, List.not_mem_nil, or_false, or_true, true_or, false_or, Nat.reduceEqDiff, ↓reduceIte, Option.some.injEq, AV.lit.injEq, Value.int.injEq, Value.bool.injEq, AV.own.injEq, AO.row.injEq, AO.box.injEq, List.cons.injEq, AV.agg.injEq, AV.sl.injEq, true_and, and_true, and_self, heq_eq_eq, List.length_nil, List.length_cons, List.map_nil, List.take_zero, Int.natCast_add, Int.cast_ofNat_Int, Int.natCast_zero, List.length_append, List.length_map, List.length_take, Nat.zero_add]) <;> ((repeat' apply And.intro) <;> first | rfl | omega | (simp; done))))
    | ((with_reducible refine EndsAt_id ?_); (try subst_vars); refine EndsAt.done [_] (by first | exact .inr rfl | exact .inl rfl) rfl rfl ?_ ?_ <;> first | decide | (repeat' (first | rfl | apply And.intro | trivial)))
    | (with_reducible refine AWp.seq ?_)⟩
noncomputable def c_yMul : Con0 := conF [.int, (.list .int), (.list .int)] fun (⟨q, f, g, _⟩ : Int × (List Int) × (List Int) × Unit) => ((2 ≤ q ∧ q ≤ 2000000000) ∧ (∀ x ∈ f, 0 ≤ x ∧ x < q) ∧ (∀ x ∈ g, 0 ≤ x ∧ x < q) ∧ (1 ≤ f.length ∧ f.length ≤ 100) ∧ (1 ≤ g.length ∧ g.length ≤ 100), .own 0 (f.length + g.length - 1), [.row 3 .int (mulP q f g)])
noncomputable def G_yMul : List (FuncId × Con) := []
theorem G_yMul_ok : ∀ f C, (f, C) ∈ G_yMul → C.ok Try.prog f := by
  intro f C h
  simp only [G_yMul, List.mem_cons, Prod.mk.injEq, List.not_mem_nil, or_false] at h
set_option maxRecDepth 100000 in
set_option maxHeartbeats 4000000 in
theorem ok_yMul : (mk c_yMul).ok Try.prog 109 := okF (Θ := Th) (N := 61) (rs := [.tmp 6]) Th_ok Try.func109 (by kernel_rfl) rfl Try.results109 (by decide) (by kernel_rfl) fun (⟨q, f, g, _⟩ : Int × (List Int) × (List Int) × Unit) => ⟨rfl, rfl, Nat.le_of_ble_eq_true rfl, fun hc w0 => by
  have hL := dmy_eq
  try dsimp only at hc
  try dsimp only
  obtain ⟨⟨hq2, hqM⟩, hf, hg, ⟨hf1, hf2⟩, ⟨hg1, hg2⟩⟩ := hc
  have ht : ((f.length : Int) + g.length - 1).toNat = f.length + g.length - 1 := by omega
  replace hL := And.intro ht hL
  have hres := (mulP_ok hq2 (f := f) (g := g)).1
  refine AWp.body rfl ?_
  repeat' first
    | ((with_reducible refine hK _ _ ?_); clear hK K)
    | ((with_reducible refine hK _ _ (by kernel_rfl) ?_); clear hK K)
    | ((with_reducible refine AWp.pS Th_ok G_yMul_ok [0, 1, 2, 6, 7, 8, 9, 10, 11, 19, 27, 28, 29, 30, 34, 35, 36, 37] (by decide) ?_); intro K hK)
    | ((with_reducible refine AWp.dS (by kernel_rfl) Th_ok G_yMul_ok [0, 1, 2, 6, 7, 8, 9, 10, 11, 19, 27, 28, 29, 30, 34, 35, 36, 37] ?_); intro K hK)
    | ((with_reducible refine AWp.pE Th_ok G_yMul_ok [0, 1, 2, 6, 7, 8, 9, 10, 11, 19, 27, 28, 29, 30, 34, 35, 36, 37] (by decide) ?_); intro K hK)
    | ((with_reducible refine AWp.dE (by kernel_rfl) Th_ok G_yMul_ok [0, 1, 2, 6, 7, 8, 9, 10, 11, 19, 27, 28, 29, 30, 34, 35, 36, 37] ?_); intro K hK)
    | ((first | with_reducible refine runF_id ?_ | with_reducible refine stepF_id ?_); simp (maxSteps := 2000000) only [runF, stepF, forkOf, gdOf, List.toList_toArray, stepOp, look, opAV, pureOp, callOp, memOp, AS.ev, AS.get, AS.obj, initS, initFrom, AV.cells, AS.upd, Option.bind_some, Option.bind_none, Option.map_some, Option.map_none, Option.getD_none, Option.getD_some, ↓reduceIte, Nat.reduceEqDiff, Nat.reduceAdd, Nat.reduceMul, Nat.reduceSub, List.nil_append, List.append_nil, List.cons_append, List.map_cons, List.map_nil, true_and, and_true, AS.fin, pick, dedup, List.mem_cons, List.not_mem_nil, or_false, false_or, List.size_toArray, List.length_cons, List.length_nil, loadAV, List.drop_zero, List.drop_succ_cons, List.take_zero, List.take_succ_cons, List.getElem?_cons_zero, List.getElem?_cons_succ, List.head?_cons, List.mapM_cons, List.mapM_nil, Option.bind_eq_bind, Option.pure_def, deeps3, deep3, deep2, deep1, deeps, deeps2, mixInts, AV.plain, mk, mkD, DCon.lift, DCon.runC, ren3, ren2, ren1, numb, List.zipIdx_nil, List.zipIdx_cons, List.all_nil, List.all_cons, Nat.reduceLeDiff, List.range, List.range.loop, Ty.sz, beq_self_eq_true, Bool.and_self, and_self, Ty.ofC, AO.isDead, Nat.reduceLT, if_true, Nat.zero_add, Nat.add_zero, ite_true, Nat.le_refl, Bool.false_eq_true, reduceCtorEq, if_false, ite_false, binAV, AO.ren, AV.isCell, fillAV, List.set_cons_zero, List.set_cons_succ, Ty.cells, Ty.flat, Ty.dflt, List.getD_cons_zero, List.getD_cons_succ, Int.reduceToNat, Int.reduceSub, Int.reduceAdd, Int.reduceMul, Int.reduceNeg, forall_eq_or_imp, forall_eq, gdL, id_eq, Nat.lt_irrefl, srcOf, List.replicate_succ, List.replicate_zero, dite_true, List.isEmpty_cons, Option.isSome_some, List.length_append, List.length_singleton, bne_self_eq_false, Bool.not_true, Bool.not_false, conF, asArgs, asArg, asTy, asI1, asB1, asS1, asL1, canons, canon, Fork.true_, Fork.false_, bne, Bool.not_not, List.length_map, pickO, AS.over, TI.bl, bne_iff_ne, AS.over2, without, keys, List.mem_singleton, memOp2, memOp3, absorb, abInt, abBool, abStr, abList, gones, Int.toNat_natCast, List.take_length, subE, List.nodup_cons, List.nodup_nil, not_false_eq_true, Nat.sub_self, conR, asG, asI, asBo, asStr, asIs, asBs, asE4, asI2, asI3, asLL, asLLL, Th_int, Th_Sint, Th_implBases, Th_implDealing, Th_implGroup, Th_lawsDealing, Th_lawsEqualLog, Th_lawsGroup, Th_string, G_yMul, hL])
    | ((with_reducible refine ens_step ?_ (fun hE => ?_)); · ((repeat' with_reducible apply And.intro) <;> first | with_reducible assumption | omega | exact True.intro | with_reducible rfl | (show ByteArray.size _ ≤ _; decide) | (simp; done) | (simp; omega) | rfl))
    | ((with_reducible refine And.intro ?_ ?_); · ((repeat' with_reducible apply And.intro) <;> first | with_reducible assumption | omega | exact True.intro | with_reducible rfl | (show ByteArray.size _ ≤ _; decide) | (simp; done) | (simp; omega) | rfl))
    | ((with_reducible refine Fork.intro (fun h' => ?_) (fun h' => ?_)) <;> (try simp only [Bool.not_eq_true', Bool.not_eq_false', bne] at h') <;> (replace hL := And.intro h' hL) <;> (try simp only [decide_eq_true_eq, decide_eq_false_iff_not, beq_iff_eq, beq_eq_false_iff_ne, ne_eq] at h') <;> (try (exfalso; omega)) <;> (try (have hij : ((i : Int) + (k : Int)).toNat = i + k := (by omega); have hak := getD_bd' hf (k := i) (by omega); have hbk := getD_bd' hg (k := k) (by omega); have hok := getD_bd' hy4 (k := i + k) (by omega); have hmb := mul_bd (a := f.getD i 0) (b := g.getD k 0) (by omega) (by omega); have hrb := emod_bd (n := f.getD i 0 * g.getD k 0) (q := q) (by omega); have hml : (out2.getD (i + k) 0 + f.getD i 0 * g.getD k 0 % q) % q = (out2.getD (i + k) 0 + f.getD i 0 * g.getD k 0) % q := add_mod_r; have hvb := emod_bd (n := out2.getD (i + k) 0 + f.getD i 0 * g.getD k 0) (q := q) (by omega); rw [mulIn_at (by omega)] at hy2; replace hL := And.intro hml (And.intro hij hL))) <;> (try (have hke : k = g.length := (by omega); subst hke; rw [mulIn_end] at hy2; subst hy2)) <;> (try (have hie : i = f.length := (by omega); subst hie; rw [mulOut_end] at hz2; replace hz2 : out = mulP q f g := hz2; subst hz2)) <;> (try (rw [mulOut_at (by omega)] at hz2; have hmi := (mulIn_ok (a := f.getD i 0) (i := i) hq2 g 0 out hz4).2; have hmil := (mulIn_ok (a := f.getD i 0) (i := i) hq2 g 0 out hz4).1)))
    | (with_reducible refine AWp.skipS ?_)
    | ((with_reducible refine AWp.condT rfl ?_))
    | ((with_reducible refine AWp.condF rfl ?_))
    | (with_reducible refine AWp.condB rfl ?_)
    | (with_reducible refine AWp.ret ?_)
    | (with_reducible refine seqQ_n ?_)
    | (with_reducible refine seqQ_ret ?_)
    | (with_reducible refine blkQ_ret ?_)
    | (with_reducible refine blkQ_n ?_)
    | (with_reducible refine seqQ_exit ?_)
    | (with_reducible refine blkQ_exit ?_)
    | (with_reducible refine blkQ_other (by decide) ?_)
    | (with_reducible refine AWp.block ?_)
    | (with_reducible refine AWp.exit ?_)
    | (with_reducible refine AWp.skip ?_)
    | ((with_reducible refine loop_id ?_); refine AWp.loopAt 5 rfl ?_; refine AWp.loopO [8, 9, 10, 11, 29, 30, 31, 32, 33, 34, 35, 36, 37, 38, 39, 40, 41, 42, 43, 44, 45, 46, 47, 48, 49, 50, 51, 52, 53, 54, 55, 56, 57, 58, 59] (fun z : Nat × List Int => [(29, .lit (.int .i64 (z.1 : Nat)))]) (fun z => [(120, .row 3 .int z.2)]) (fun z => z.1 ≤ f.length ∧ mulOut q g (f.drop z.1) z.1 z.2 = mulP q f g ∧ z.2.length = f.length + g.length - 1 ∧ ∀ x ∈ z.2, 0 ≤ x ∧ x < q) (fun z => f.length - z.1) (0, List.replicate (f.length + g.length - 1) 0) (by (try dsimp only); exact ⟨by omega, rfl, by simp, repl_bd hq2⟩) (by refine Sub.auto (by first | exact frok0 | assumption) rfl rfl ?_ ?_ <;> (try simp only [subE, AS.over2, without, keys, look, List.cons_append, List.nil_append, List.append_nil, List.mem_cons, List.not_mem_nil, or_false, or_true, true_or, false_or, Nat.reduceEqDiff, ↓reduceIte, Option.some.injEq, AV.lit.injEq, Value.int.injEq, Value.bool.injEq, AV.own.injEq, AO.row.injEq, AO.box.injEq, List.cons.injEq, AV.agg.injEq, AV.sl.injEq, true_and, and_true, and_self, heq_eq_eq, List.length_nil, List.length_cons, List.map_nil, List.take_zero, Int.natCast_add, Int.cast_ofNat_Int, Int.natCast_zero, List.length_append, List.length_map, List.length_take, Nat.zero_add]) <;> (simp)) (fun z hz5 L5 hLoop5 => ?_); obtain ⟨i, out⟩ := z; (try dsimp only at hz5); obtain ⟨hz1, hz2, hz3, hz4⟩ := hz5)
    | ((with_reducible refine seqQ_f ?_); refine hLoop5 (i + 1, mulIn q (f.getD i 0) i g 0 out) _ (by (try dsimp only); exact ⟨by omega, hz2, by rw [hmil]; exact hz3, hmi⟩) (by (try dsimp only); omega) ?_; (refine Sub.auto (by first | exact frok0 | assumption) rfl rfl ?_ ?_ <;> (try simp only [subE, AS.over2, without, keys, look, List.cons_append, List.nil_append, List.append_nil, List.mem_cons, List.not_mem_nil, or_false, or_true, true_or, false_or, Nat.reduceEqDiff, ↓reduceIte, Option.some.injEq, AV.lit.injEq, Value.int.injEq, Value.bool.injEq, AV.own.injEq, AO.row.injEq, AO.box.injEq, List.cons.injEq, AV.agg.injEq, AV.sl.injEq, true_and, and_true, and_self, heq_eq_eq, List.length_nil, List.length_cons, List.map_nil, List.take_zero, Int.natCast_add, Int.cast_ofNat_Int, Int.natCast_zero, List.length_append, List.length_map, List.length_take, Nat.zero_add]) <;> ((repeat' apply And.intro) <;> first | rfl | omega | (simp; done))))
    | ((with_reducible refine loop_id ?_); refine AWp.loopAt 8 rfl ?_; refine AWp.loopO [10, 11, 36, 37, 38, 39, 40, 41, 42, 43, 44, 45, 46, 47, 48, 49, 50, 51, 52, 53, 54, 55, 56, 57, 58] (fun z : Nat × List Int => [(36, .lit (.int .i64 (z.1 : Nat)))]) (fun z => [(120, .row 3 .int z.2)]) (fun z => z.1 ≤ g.length ∧ mulIn q (f.getD i 0) i (g.drop z.1) z.1 z.2 = mulIn q (f.getD i 0) i g 0 out ∧ z.2.length = f.length + g.length - 1 ∧ ∀ x ∈ z.2, 0 ≤ x ∧ x < q) (fun z => g.length - z.1) (0, out) (by (try dsimp only); exact ⟨by omega, by simp, hz3, hz4⟩) (by refine Sub.auto (by first | exact frok0 | assumption) rfl rfl ?_ ?_ <;> (try simp only [subE, AS.over2, without, keys, look, List.cons_append, List.nil_append, List.append_nil, List.mem_cons, List.not_mem_nil, or_false, or_true, true_or, false_or, Nat.reduceEqDiff, ↓reduceIte, Option.some.injEq, AV.lit.injEq, Value.int.injEq, Value.bool.injEq, AV.own.injEq, AO.row.injEq, AO.box.injEq, List.cons.injEq, AV.agg.injEq, AV.sl.injEq, true_and, and_true, and_self, heq_eq_eq, List.length_nil, List.length_cons, List.map_nil, List.take_zero, Int.natCast_add, Int.cast_ofNat_Int, Int.natCast_zero, List.length_append, List.length_map, List.length_take, Nat.zero_add]) <;> (simp)) (fun z hz8 L8 hLoop8 => ?_); obtain ⟨k, out2⟩ := z; (try dsimp only at hz8); obtain ⟨hy1, hy2, hy3, hy4⟩ := hz8)
    | ((with_reducible refine seqQ_f ?_); refine hLoop8 (k + 1, out2.set (i + k) ((out2.getD (i + k) 0 + f.getD i 0 * g.getD k 0) % q)) _ (by (try dsimp only); exact ⟨by omega, hy2, by rw [List.length_set]; exact hy3, set_bd hy4 hvb⟩) (by (try dsimp only); omega) ?_; (refine Sub.auto (by first | exact frok0 | assumption) rfl rfl ?_ ?_ <;> (try simp only [subE, AS.over2, without, keys, look, List.cons_append, List.nil_append, List.append_nil, List.mem_cons, List.not_mem_nil, or_false, or_true, true_or, false_or, Nat.reduceEqDiff, ↓reduceIte, Option.some.injEq, AV.lit.injEq, Value.int.injEq, Value.bool.injEq, AV.own.injEq, AO.row.injEq, AO.box.injEq, List.cons.injEq, AV.agg.injEq, AV.sl.injEq, true_and, and_true, and_self, heq_eq_eq, List.length_nil, List.length_cons, List.map_nil, List.take_zero, Int.natCast_add, Int.cast_ofNat_Int, Int.natCast_zero, List.length_append, List.length_map, List.length_take, Nat.zero_add]) <;> ((repeat' apply And.intro) <;> first | rfl | omega | (simp; done))))
    | ((with_reducible refine EndsAt_id ?_); (try subst_vars); refine EndsAt.done [_] (by first | exact .inr rfl | exact .inl rfl) rfl rfl ?_ ?_ <;> first | decide | (repeat' (first | rfl | apply And.intro | trivial)))
    | (with_reducible refine AWp.seq ?_)⟩
theorem vdl_use {p q g : Int} {cs ss : List Int} (h : vdl p q g cs ss = true) : shB p q g = true ∧ dlB p q cs ss = true := by simpa [vdl] using h
noncomputable def PBad (p q g : Int) (cs ss : List Int) : List Int := if vdl p q g cs ss = true then badL p q g cs ss else []
theorem PBad_le (p q g : Int) (cs ss : List Int) : (PBad p q g cs ss).length ≤ ss.length := by
  unfold PBad; split
  · exact badL_le p q g cs ss
  · simp
def zroB (p q g : Int) (cs ss : List Int) (i : Int) : Bool := (atV p q i cs == 1) && (((badL p q g cs ss).length : Int) == 0)
noncomputable def okZd (p q g i : Int) (cs : List Int) (n : Int) : Bool := shB p q g && inr i 0 7 && inr n 1 7 && inr cs.length 1 (n - 1) && expsB q cs
noncomputable def PZd (p q g i : Int) (cs : List Int) (n : Int) : List Int × List Int := if okZd p q g i cs n = true then (dealC p q g (mulP q cs [(-i) % q, 1]), dealS q (mulP q cs [(-i) % q, 1]) n.toNat) else ([], [])
theorem PZd_le (p q g i : Int) (cs : List Int) (n : Int) (hc : cs.length ≤ 1048577) : (PZd p q g i cs n).1.length ≤ 1048578 ∧ (PZd p q g i cs n).2.length ≤ 1048578 := by
  unfold PZd
  split
  · rename_i h
    simp only [okZd, Bool.and_eq_true] at h
    have h1 := inr_t h.1.1.2
    have hq := (shB_of h.1.1.1.1).2
    rw [dealC_len, dealS_len, (mulP_ok (by omega)).1]
    simp only [List.length_cons, List.length_nil]; omega
  · simp
noncomputable def c_BadSharesI : Con0 := conF [(.pair .int (.pair .int .int)), (.pair (.list .int) (.list .int))] fun (⟨⟨p, q, g⟩, ⟨cs, ss⟩, _⟩ : (Int × Int × Int) × (List Int × List Int) × Unit) => (True, .tup [.own 0 (PBad p q g cs ss).length, .lit (.bool (vdl p q g cs ss))], [.row 3 .int (PBad p q g cs ss)])
noncomputable def G_BadSharesI : List (FuncId × Con) := [(87, mk c_isValidDealingI), (88, mk c_bad)]
theorem G_BadSharesI_ok : ∀ f C, (f, C) ∈ G_BadSharesI → C.ok Try.prog f := by
  intro f C h
  simp only [G_BadSharesI, List.mem_cons, Prod.mk.injEq, List.not_mem_nil, or_false] at h
  rcases h with ⟨rfl, rfl⟩ | ⟨rfl, rfl⟩
  · exact ok_isValidDealingI
  · exact ok_bad
set_option maxRecDepth 100000 in
set_option maxHeartbeats 4000000 in
theorem ok_BadSharesI : (mk c_BadSharesI).ok Try.prog 38 := okF (Θ := Th) (N := 13) (rs := [.tmp 4, .tmp 5]) Th_ok Try.func38 (by kernel_rfl) rfl Try.results38 (by decide) (by kernel_rfl) fun (⟨⟨p, q, g⟩, ⟨cs, ss⟩, _⟩ : (Int × Int × Int) × (List Int × List Int) × Unit) => ⟨rfl, rfl, Nat.le_of_ble_eq_true rfl, fun hc w0 => by
  have hL := dmy_eq
  try dsimp only at hc
  try dsimp only
  refine AWp.body rfl ?_
  repeat' first
    | ((with_reducible refine hK _ _ ?_); clear hK K)
    | ((with_reducible refine hK _ _ (by kernel_rfl) ?_); clear hK K)
    | ((with_reducible refine AWp.pS Th_ok G_BadSharesI_ok [0, 1, 2, 3, 4, 5, 9] (by decide) ?_); intro K hK)
    | ((with_reducible refine AWp.dS (by kernel_rfl) Th_ok G_BadSharesI_ok [0, 1, 2, 3, 4, 5, 9] ?_); intro K hK)
    | ((with_reducible refine AWp.pE Th_ok G_BadSharesI_ok [0, 1, 2, 3, 4, 5, 9] (by decide) ?_); intro K hK)
    | ((with_reducible refine AWp.dE (by kernel_rfl) Th_ok G_BadSharesI_ok [0, 1, 2, 3, 4, 5, 9] ?_); intro K hK)
    | ((first | with_reducible refine runF_id ?_ | with_reducible refine stepF_id ?_); simp (maxSteps := 2000000) only [runF, stepF, forkOf, gdOf, List.toList_toArray, stepOp, look, opAV, pureOp, callOp, memOp, AS.ev, AS.get, AS.obj, initS, initFrom, AV.cells, AS.upd, Option.bind_some, Option.bind_none, Option.map_some, Option.map_none, Option.getD_none, Option.getD_some, ↓reduceIte, Nat.reduceEqDiff, Nat.reduceAdd, Nat.reduceMul, Nat.reduceSub, List.nil_append, List.append_nil, List.cons_append, List.map_cons, List.map_nil, true_and, and_true, AS.fin, pick, dedup, List.mem_cons, List.not_mem_nil, or_false, false_or, List.size_toArray, List.length_cons, List.length_nil, loadAV, List.drop_zero, List.drop_succ_cons, List.take_zero, List.take_succ_cons, List.getElem?_cons_zero, List.getElem?_cons_succ, List.head?_cons, List.mapM_cons, List.mapM_nil, Option.bind_eq_bind, Option.pure_def, deeps3, deep3, deep2, deep1, deeps, deeps2, mixInts, AV.plain, mk, mkD, DCon.lift, DCon.runC, ren3, ren2, ren1, numb, List.zipIdx_nil, List.zipIdx_cons, List.all_nil, List.all_cons, Nat.reduceLeDiff, List.range, List.range.loop, Ty.sz, beq_self_eq_true, Bool.and_self, and_self, Ty.ofC, AO.isDead, Nat.reduceLT, if_true, Nat.zero_add, Nat.add_zero, ite_true, Nat.le_refl, Bool.false_eq_true, reduceCtorEq, if_false, ite_false, binAV, AO.ren, AV.isCell, fillAV, List.set_cons_zero, List.set_cons_succ, Ty.cells, Ty.flat, Ty.dflt, List.getD_cons_zero, List.getD_cons_succ, Int.reduceToNat, Int.reduceSub, Int.reduceAdd, Int.reduceMul, Int.reduceNeg, forall_eq_or_imp, forall_eq, gdL, id_eq, Nat.lt_irrefl, srcOf, List.replicate_succ, List.replicate_zero, dite_true, List.isEmpty_cons, Option.isSome_some, List.length_append, List.length_singleton, bne_self_eq_false, Bool.not_true, Bool.not_false, conF, asArgs, asArg, asTy, asI1, asB1, asS1, asL1, canons, canon, Fork.true_, Fork.false_, bne, Bool.not_not, List.length_map, pickO, AS.over, TI.bl, bne_iff_ne, AS.over2, without, keys, List.mem_singleton, memOp2, memOp3, absorb, abInt, abBool, abStr, abList, gones, Int.toNat_natCast, List.take_length, subE, List.nodup_cons, List.nodup_nil, not_false_eq_true, Nat.sub_self, conR, asG, asI, asBo, asStr, asIs, asBs, asE4, asI2, asI3, asLL, asLLL, Th_int, Th_bool, Th_implDealing, Th_implGroup, G_BadSharesI, c_isValidDealingI, c_bad, hL])
    | ((with_reducible refine ens_step ?_ (fun hE => ?_)); · ((repeat' with_reducible apply And.intro) <;> first | with_reducible assumption | omega | exact True.intro | with_reducible rfl | (show ByteArray.size _ ≤ _; decide) | (simp; done) | (simp; omega) | rfl))
    | ((with_reducible refine And.intro ?_ ?_); · ((repeat' with_reducible apply And.intro) <;> first | with_reducible assumption | omega | exact True.intro | with_reducible rfl | (show ByteArray.size _ ≤ _; decide) | (simp; done) | (simp; omega) | rfl))
    | ((with_reducible refine Fork.intro (fun h' => ?_) (fun h' => ?_)) <;> (try simp only [Bool.not_eq_true', Bool.not_eq_false', bne] at h') <;> (replace hL := And.intro h' hL) <;> (try simp only [decide_eq_true_eq, decide_eq_false_iff_not, beq_iff_eq, beq_eq_false_iff_ne, ne_eq] at h') <;> (try (have hvd := vdl_use h'; obtain ⟨hvs, hvd⟩ := hvd; have hsh := shB_of hvs; obtain ⟨hgd, hq7⟩ := hsh; have hG := M.goodB_of hgd; have hq2 := hG.q2; have hqp := hG.qp; have hp3 := hG.p3; have hpM := hG.pM; have hdl := dlB_use hvd; obtain ⟨hcl, hcb, hsl, hsb⟩ := hdl)) <;> (try (have hsh := shB_of h'; obtain ⟨hgd, hq7⟩ := hsh; have hG := M.goodB_of hgd; have hq2 := hG.q2; have hqp := hG.qp; have hp3 := hG.p3; have hpM := hG.pM)) <;> (try (have hdl := dlB_use h'; obtain ⟨hcl, hcb, hsl, hsb⟩ := hdl)))
    | (with_reducible refine AWp.skipS ?_)
    | ((with_reducible refine AWp.condT rfl ?_))
    | ((with_reducible refine AWp.condF rfl ?_))
    | (with_reducible refine AWp.condB rfl ?_)
    | ((with_reducible refine AWp.ret_id ?_); refine AWp.sub (Sub.nilSlot 4 200004 3 .int rfl rfl) ?_)
    | (with_reducible refine AWp.ret ?_)
    | (with_reducible refine seqQ_n ?_)
    | (with_reducible refine seqQ_ret ?_)
    | (with_reducible refine blkQ_ret ?_)
    | (with_reducible refine blkQ_n ?_)
    | (with_reducible refine seqQ_exit ?_)
    | (with_reducible refine blkQ_exit ?_)
    | (with_reducible refine blkQ_other (by decide) ?_)
    | (with_reducible refine AWp.block ?_)
    | (with_reducible refine AWp.exit ?_)
    | (with_reducible refine AWp.skip ?_)
    | ((with_reducible refine EndsAt_id ?_); (try subst_vars); (try simp only [PBad, hL, List.length_cons, List.length_nil, Nat.zero_add, Nat.reduceAdd, Bool.and_true, Bool.and_false, Bool.true_and, Bool.false_and, Bool.and_self, ↓reduceIte, Bool.false_eq_true, Bool.not_true, Bool.not_false, bne]); refine EndsAt.done [_] (by first | exact .inr rfl | exact .inl rfl) rfl rfl ?_ ?_ <;> first | decide | (repeat' (first | rfl | apply And.intro | trivial)))
    | (with_reducible refine AWp.seq ?_)⟩
noncomputable def c_BadSharesS : Con0 := conF [(.pair .int (.pair .int .int)), (.pair (.list .int) (.list .int))] fun (⟨⟨p, q, g⟩, ⟨cs, ss⟩, _⟩ : (Int × Int × Int) × (List Int × List Int) × Unit) => (True, .tup [.own 0 (PBad p q g cs ss).length, .lit (.bool (vdl p q g cs ss))], [.row 3 .int (PBad p q g cs ss)])
noncomputable def G_BadSharesS : List (FuncId × Con) := [(75, mk c_sGroup), (85, mk c_sDealing), (86, mk c_sBad)]
theorem G_BadSharesS_ok : ∀ f C, (f, C) ∈ G_BadSharesS → C.ok Try.prog f := by
  intro f C h
  simp only [G_BadSharesS, List.mem_cons, Prod.mk.injEq, List.not_mem_nil, or_false] at h
  rcases h with ⟨rfl, rfl⟩ | ⟨rfl, rfl⟩ | ⟨rfl, rfl⟩
  · exact ok_sGroup
  · exact ok_sDealing
  · exact ok_sBad
set_option maxRecDepth 100000 in
set_option maxHeartbeats 4000000 in
theorem ok_BadSharesS : (mk c_BadSharesS).ok Try.prog 36 := okF (Θ := Th) (N := 18) (rs := [.tmp 4, .tmp 5]) Th_ok Try.func36 (by kernel_rfl) rfl Try.results36 (by decide) (by kernel_rfl) fun (⟨⟨p, q, g⟩, ⟨cs, ss⟩, _⟩ : (Int × Int × Int) × (List Int × List Int) × Unit) => ⟨rfl, rfl, Nat.le_of_ble_eq_true rfl, fun hc w0 => by
  have hL := dmy_eq
  try dsimp only at hc
  try dsimp only
  refine AWp.body rfl ?_
  repeat' first
    | ((with_reducible refine hK _ _ ?_); clear hK K)
    | ((with_reducible refine hK _ _ (by kernel_rfl) ?_); clear hK K)
    | ((with_reducible refine AWp.pS Th_ok G_BadSharesS_ok [0, 1, 2, 3, 4, 5, 14] (by decide) ?_); intro K hK)
    | ((with_reducible refine AWp.dS (by kernel_rfl) Th_ok G_BadSharesS_ok [0, 1, 2, 3, 4, 5, 14] ?_); intro K hK)
    | ((with_reducible refine AWp.pE Th_ok G_BadSharesS_ok [0, 1, 2, 3, 4, 5, 14] (by decide) ?_); intro K hK)
    | ((with_reducible refine AWp.dE (by kernel_rfl) Th_ok G_BadSharesS_ok [0, 1, 2, 3, 4, 5, 14] ?_); intro K hK)
    | ((first | with_reducible refine runF_id ?_ | with_reducible refine stepF_id ?_); simp (maxSteps := 2000000) only [runF, stepF, forkOf, gdOf, List.toList_toArray, stepOp, look, opAV, pureOp, callOp, memOp, AS.ev, AS.get, AS.obj, initS, initFrom, AV.cells, AS.upd, Option.bind_some, Option.bind_none, Option.map_some, Option.map_none, Option.getD_none, Option.getD_some, ↓reduceIte, Nat.reduceEqDiff, Nat.reduceAdd, Nat.reduceMul, Nat.reduceSub, List.nil_append, List.append_nil, List.cons_append, List.map_cons, List.map_nil, true_and, and_true, AS.fin, pick, dedup, List.mem_cons, List.not_mem_nil, or_false, false_or, List.size_toArray, List.length_cons, List.length_nil, loadAV, List.drop_zero, List.drop_succ_cons, List.take_zero, List.take_succ_cons, List.getElem?_cons_zero, List.getElem?_cons_succ, List.head?_cons, List.mapM_cons, List.mapM_nil, Option.bind_eq_bind, Option.pure_def, deeps3, deep3, deep2, deep1, deeps, deeps2, mixInts, AV.plain, mk, mkD, DCon.lift, DCon.runC, ren3, ren2, ren1, numb, List.zipIdx_nil, List.zipIdx_cons, List.all_nil, List.all_cons, Nat.reduceLeDiff, List.range, List.range.loop, Ty.sz, beq_self_eq_true, Bool.and_self, and_self, Ty.ofC, AO.isDead, Nat.reduceLT, if_true, Nat.zero_add, Nat.add_zero, ite_true, Nat.le_refl, Bool.false_eq_true, reduceCtorEq, if_false, ite_false, binAV, AO.ren, AV.isCell, fillAV, List.set_cons_zero, List.set_cons_succ, Ty.cells, Ty.flat, Ty.dflt, List.getD_cons_zero, List.getD_cons_succ, Int.reduceToNat, Int.reduceSub, Int.reduceAdd, Int.reduceMul, Int.reduceNeg, forall_eq_or_imp, forall_eq, gdL, id_eq, Nat.lt_irrefl, srcOf, List.replicate_succ, List.replicate_zero, dite_true, List.isEmpty_cons, Option.isSome_some, List.length_append, List.length_singleton, bne_self_eq_false, Bool.not_true, Bool.not_false, conF, asArgs, asArg, asTy, asI1, asB1, asS1, asL1, canons, canon, Fork.true_, Fork.false_, bne, Bool.not_not, List.length_map, pickO, AS.over, TI.bl, bne_iff_ne, AS.over2, without, keys, List.mem_singleton, memOp2, memOp3, absorb, abInt, abBool, abStr, abList, gones, Int.toNat_natCast, List.take_length, subE, List.nodup_cons, List.nodup_nil, not_false_eq_true, Nat.sub_self, conR, asG, asI, asBo, asStr, asIs, asBs, asE4, asI2, asI3, asLL, asLLL, Th_int, Th_bool, Th_implDealing, Th_implGroup, Th_string, G_BadSharesS, c_sGroup, c_sDealing, c_sBad, hL])
    | ((with_reducible refine ens_step ?_ (fun hE => ?_)); · ((repeat' with_reducible apply And.intro) <;> first | with_reducible assumption | omega | exact True.intro | with_reducible rfl | (show ByteArray.size _ ≤ _; decide) | (simp; done) | (simp; omega) | rfl))
    | ((with_reducible refine And.intro ?_ ?_); · ((repeat' with_reducible apply And.intro) <;> first | with_reducible assumption | omega | exact True.intro | with_reducible rfl | (show ByteArray.size _ ≤ _; decide) | (simp; done) | (simp; omega) | rfl))
    | ((with_reducible refine Fork.intro (fun h' => ?_) (fun h' => ?_)) <;> (try simp only [Bool.not_eq_true', Bool.not_eq_false', bne] at h') <;> (replace hL := And.intro h' hL) <;> (try simp only [decide_eq_true_eq, decide_eq_false_iff_not, beq_iff_eq, beq_eq_false_iff_ne, ne_eq] at h') <;> (try (have hvd := vdl_use h'; obtain ⟨hvs, hvd⟩ := hvd; have hsh := shB_of hvs; obtain ⟨hgd, hq7⟩ := hsh; have hG := M.goodB_of hgd; have hq2 := hG.q2; have hqp := hG.qp; have hp3 := hG.p3; have hpM := hG.pM; have hdl := dlB_use hvd; obtain ⟨hcl, hcb, hsl, hsb⟩ := hdl)) <;> (try (have hsh := shB_of h'; obtain ⟨hgd, hq7⟩ := hsh; have hG := M.goodB_of hgd; have hq2 := hG.q2; have hqp := hG.qp; have hp3 := hG.p3; have hpM := hG.pM)) <;> (try (have hdl := dlB_use h'; obtain ⟨hcl, hcb, hsl, hsb⟩ := hdl)))
    | (with_reducible refine AWp.skipS ?_)
    | ((with_reducible refine AWp.condT rfl ?_))
    | ((with_reducible refine AWp.condF rfl ?_))
    | (with_reducible refine AWp.condB rfl ?_)
    | ((with_reducible refine AWp.ret_id ?_); refine AWp.sub (Sub.nilSlot 4 200004 3 .int rfl rfl) ?_)
    | (with_reducible refine AWp.ret ?_)
    | (with_reducible refine seqQ_n ?_)
    | (with_reducible refine seqQ_ret ?_)
    | (with_reducible refine blkQ_ret ?_)
    | (with_reducible refine blkQ_n ?_)
    | (with_reducible refine seqQ_exit ?_)
    | (with_reducible refine blkQ_exit ?_)
    | (with_reducible refine blkQ_other (by decide) ?_)
    | (with_reducible refine AWp.block ?_)
    | (with_reducible refine AWp.exit ?_)
    | (with_reducible refine AWp.skip ?_)
    | ((with_reducible refine EndsAt_id ?_); (try subst_vars); (try simp only [PBad, vdl, hL, List.length_cons, List.length_nil, Nat.zero_add, Nat.reduceAdd, Bool.and_true, Bool.and_false, Bool.true_and, Bool.false_and, Bool.and_self, ↓reduceIte, Bool.false_eq_true, Bool.not_true, Bool.not_false, bne]); refine EndsAt.done [_] (by first | exact .inr rfl | exact .inl rfl) rfl rfl ?_ ?_ <;> first | decide | (repeat' (first | rfl | apply And.intro | trivial)))
    | (with_reducible refine AWp.seq ?_)⟩
noncomputable def c_isZero : Con0 := conF [(.pair .int (.pair .int .int)), (.pair (.list .int) (.list .int)), .int] fun (⟨⟨p, q, g⟩, ⟨cs, ss⟩, i, _⟩ : (Int × Int × Int) × (List Int × List Int) × Int × Unit) => (M.Grp p q g ∧ (0 ≤ i ∧ i ≤ 7) ∧ (∀ c ∈ cs, 0 ≤ c ∧ c < p) ∧ (∀ s ∈ ss, 0 ≤ s ∧ s < q) ∧ ss.length ≤ 7 ∧ cs.length ≤ 7, .lit (.bool (zroB p q g cs ss i)), [])
noncomputable def G_isZero : List (FuncId × Con) := [(143, mk c_commitAt), (88, mk c_bad)]
theorem G_isZero_ok : ∀ f C, (f, C) ∈ G_isZero → C.ok Try.prog f := by
  intro f C h
  simp only [G_isZero, List.mem_cons, Prod.mk.injEq, List.not_mem_nil, or_false] at h
  rcases h with ⟨rfl, rfl⟩ | ⟨rfl, rfl⟩
  · exact ok_commitAt
  · exact ok_bad
set_option maxRecDepth 100000 in
set_option maxHeartbeats 4000000 in
theorem ok_isZero : (mk c_isZero).ok Try.prog 117 := okF (Θ := Th) (N := 20) (rs := [.tmp 6]) Th_ok Try.func117 (by kernel_rfl) rfl Try.results117 (by decide) (by kernel_rfl) fun (⟨⟨p, q, g⟩, ⟨cs, ss⟩, i, _⟩ : (Int × Int × Int) × (List Int × List Int) × Int × Unit) => ⟨rfl, rfl, Nat.le_of_ble_eq_true rfl, fun hc w0 => by
  have hL := dmy_eq
  try dsimp only at hc
  try dsimp only
  obtain ⟨hG, hi, hcs, hss, hsl, hcl⟩ := hc
  have hq2 := hG.q2
  have hqp := hG.qp
  have hp3 := hG.p3
  have hpM := hG.pM
  have hgb : 0 ≤ g ∧ g < p := ⟨by have := hG.g2; omega, hG.gp⟩
  refine AWp.body rfl ?_
  repeat' first
    | ((with_reducible refine hK _ _ ?_); clear hK K)
    | ((with_reducible refine hK _ _ (by kernel_rfl) ?_); clear hK K)
    | ((with_reducible refine AWp.pS Th_ok G_isZero_ok [0, 1, 2, 3, 4, 6] (by decide) ?_); intro K hK)
    | ((with_reducible refine AWp.dS (by kernel_rfl) Th_ok G_isZero_ok [0, 1, 2, 3, 4, 6] ?_); intro K hK)
    | ((with_reducible refine AWp.pE Th_ok G_isZero_ok [0, 1, 2, 3, 4, 6] (by decide) ?_); intro K hK)
    | ((with_reducible refine AWp.dE (by kernel_rfl) Th_ok G_isZero_ok [0, 1, 2, 3, 4, 6] ?_); intro K hK)
    | ((first | with_reducible refine runF_id ?_ | with_reducible refine stepF_id ?_); simp (maxSteps := 2000000) only [runF, stepF, forkOf, gdOf, List.toList_toArray, stepOp, look, opAV, pureOp, callOp, memOp, AS.ev, AS.get, AS.obj, initS, initFrom, AV.cells, AS.upd, Option.bind_some, Option.bind_none, Option.map_some, Option.map_none, Option.getD_none, Option.getD_some, ↓reduceIte, Nat.reduceEqDiff, Nat.reduceAdd, Nat.reduceMul, Nat.reduceSub, List.nil_append, List.append_nil, List.cons_append, List.map_cons, List.map_nil, true_and, and_true, AS.fin, pick, dedup, List.mem_cons, List.not_mem_nil, or_false, false_or, List.size_toArray, List.length_cons, List.length_nil, loadAV, List.drop_zero, List.drop_succ_cons, List.take_zero, List.take_succ_cons, List.getElem?_cons_zero, List.getElem?_cons_succ, List.head?_cons, List.mapM_cons, List.mapM_nil, Option.bind_eq_bind, Option.pure_def, deeps3, deep3, deep2, deep1, deeps, deeps2, mixInts, AV.plain, mk, mkD, DCon.lift, DCon.runC, ren3, ren2, ren1, numb, List.zipIdx_nil, List.zipIdx_cons, List.all_nil, List.all_cons, Nat.reduceLeDiff, List.range, List.range.loop, Ty.sz, beq_self_eq_true, Bool.and_self, and_self, Ty.ofC, AO.isDead, Nat.reduceLT, if_true, Nat.zero_add, Nat.add_zero, ite_true, Nat.le_refl, Bool.false_eq_true, reduceCtorEq, if_false, ite_false, binAV, AO.ren, AV.isCell, fillAV, List.set_cons_zero, List.set_cons_succ, Ty.cells, Ty.flat, Ty.dflt, List.getD_cons_zero, List.getD_cons_succ, Int.reduceToNat, Int.reduceSub, Int.reduceAdd, Int.reduceMul, Int.reduceNeg, forall_eq_or_imp, forall_eq, gdL, id_eq, Nat.lt_irrefl, srcOf, List.replicate_succ, List.replicate_zero, dite_true, List.isEmpty_cons, Option.isSome_some, List.length_append, List.length_singleton, bne_self_eq_false, Bool.not_true, Bool.not_false, conF, asArgs, asArg, asTy, asI1, asB1, asS1, asL1, canons, canon, Fork.true_, Fork.false_, bne, Bool.not_not, List.length_map, pickO, AS.over, TI.bl, bne_iff_ne, AS.over2, without, keys, List.mem_singleton, memOp2, memOp3, absorb, abInt, abBool, abStr, abList, gones, Int.toNat_natCast, List.take_length, subE, List.nodup_cons, List.nodup_nil, not_false_eq_true, Nat.sub_self, conR, asG, asI, asBo, asStr, asIs, asBs, asE4, asI2, asI3, asLL, asLLL, Th_int, Th_Sint, Th_bool, Th_implDealing, Th_implGroup, Th_string, G_isZero, c_commitAt, c_bad, hL])
    | ((with_reducible refine ens_step ?_ (fun hE => ?_)); · ((repeat' with_reducible apply And.intro) <;> first | with_reducible assumption | omega | exact True.intro | with_reducible rfl | (show ByteArray.size _ ≤ _; decide) | (simp; done) | (simp; omega) | rfl))
    | ((with_reducible refine And.intro ?_ ?_); · ((repeat' with_reducible apply And.intro) <;> first | with_reducible assumption | omega | exact True.intro | with_reducible rfl | (show ByteArray.size _ ≤ _; decide) | (simp; done) | (simp; omega) | rfl))
    | ((with_reducible refine Fork.intro (fun h' => ?_) (fun h' => ?_)) <;> (try simp only [Bool.not_eq_true', Bool.not_eq_false', bne] at h') <;> (replace hL := And.intro h' hL) <;> (try simp only [decide_eq_true_eq, decide_eq_false_iff_not, beq_iff_eq, beq_eq_false_iff_ne, ne_eq] at h'))
    | (with_reducible refine AWp.skipS ?_)
    | ((with_reducible refine AWp.condT rfl ?_))
    | ((with_reducible refine AWp.condF rfl ?_))
    | (with_reducible refine AWp.condB rfl ?_)
    | (with_reducible refine AWp.ret ?_)
    | (with_reducible refine seqQ_n ?_)
    | (with_reducible refine seqQ_ret ?_)
    | (with_reducible refine blkQ_ret ?_)
    | (with_reducible refine blkQ_n ?_)
    | (with_reducible refine seqQ_exit ?_)
    | (with_reducible refine blkQ_exit ?_)
    | (with_reducible refine blkQ_other (by decide) ?_)
    | (with_reducible refine AWp.block ?_)
    | (with_reducible refine AWp.exit ?_)
    | (with_reducible refine AWp.skip ?_)
    | ((with_reducible refine EndsAt_id ?_); (try subst_vars); (try simp only [zroB, hL, List.length_cons, List.length_nil, Nat.zero_add, Nat.reduceAdd, Bool.and_true, Bool.and_false, Bool.true_and, Bool.false_and, Bool.and_self, ↓reduceIte, Bool.false_eq_true, Bool.not_true, Bool.not_false, bne]); refine EndsAt.done [] (by first | exact .inr rfl | exact .inl rfl) rfl rfl ?_ ?_ <;> first | decide | (repeat' (first | rfl | apply And.intro | trivial)))
    | (with_reducible refine AWp.seq ?_)⟩
noncomputable def c_rZero : Con0 := conF [(.pair .int (.pair .int .int)), (.pair (.list .int) (.list .int)), .int] fun (⟨⟨p, q, g⟩, ⟨cs, ss⟩, i, _⟩ : (Int × Int × Int) × (List Int × List Int) × Int × Unit) => (M.Grp p q g ∧ (0 ≤ i ∧ i ≤ 7) ∧ (∀ c ∈ cs, 0 ≤ c ∧ c < p) ∧ (∀ s ∈ ss, 0 ≤ s ∧ s < q) ∧ ss.length ≤ 7 ∧ cs.length ≤ 7, .lit (.bool (zroB p q g cs ss i)), [])
noncomputable def G_rZero : List (FuncId × Con) := [(139, mk c_sAt), (86, mk c_sBad)]
theorem G_rZero_ok : ∀ f C, (f, C) ∈ G_rZero → C.ok Try.prog f := by
  intro f C h
  simp only [G_rZero, List.mem_cons, Prod.mk.injEq, List.not_mem_nil, or_false] at h
  rcases h with ⟨rfl, rfl⟩ | ⟨rfl, rfl⟩
  · exact ok_sAt
  · exact ok_sBad
set_option maxRecDepth 100000 in
set_option maxHeartbeats 4000000 in
theorem ok_rZero : (mk c_rZero).ok Try.prog 116 := okF (Θ := Th) (N := 20) (rs := [.tmp 6]) Th_ok Try.func116 (by kernel_rfl) rfl Try.results116 (by decide) (by kernel_rfl) fun (⟨⟨p, q, g⟩, ⟨cs, ss⟩, i, _⟩ : (Int × Int × Int) × (List Int × List Int) × Int × Unit) => ⟨rfl, rfl, Nat.le_of_ble_eq_true rfl, fun hc w0 => by
  have hL := dmy_eq
  try dsimp only at hc
  try dsimp only
  obtain ⟨hG, hi, hcs, hss, hsl, hcl⟩ := hc
  have hq2 := hG.q2
  have hqp := hG.qp
  have hp3 := hG.p3
  have hpM := hG.pM
  have hgb : 0 ≤ g ∧ g < p := ⟨by have := hG.g2; omega, hG.gp⟩
  refine AWp.body rfl ?_
  repeat' first
    | ((with_reducible refine hK _ _ ?_); clear hK K)
    | ((with_reducible refine hK _ _ (by kernel_rfl) ?_); clear hK K)
    | ((with_reducible refine AWp.pS Th_ok G_rZero_ok [0, 1, 2, 3, 4, 6] (by decide) ?_); intro K hK)
    | ((with_reducible refine AWp.dS (by kernel_rfl) Th_ok G_rZero_ok [0, 1, 2, 3, 4, 6] ?_); intro K hK)
    | ((with_reducible refine AWp.pE Th_ok G_rZero_ok [0, 1, 2, 3, 4, 6] (by decide) ?_); intro K hK)
    | ((with_reducible refine AWp.dE (by kernel_rfl) Th_ok G_rZero_ok [0, 1, 2, 3, 4, 6] ?_); intro K hK)
    | ((first | with_reducible refine runF_id ?_ | with_reducible refine stepF_id ?_); simp (maxSteps := 2000000) only [runF, stepF, forkOf, gdOf, List.toList_toArray, stepOp, look, opAV, pureOp, callOp, memOp, AS.ev, AS.get, AS.obj, initS, initFrom, AV.cells, AS.upd, Option.bind_some, Option.bind_none, Option.map_some, Option.map_none, Option.getD_none, Option.getD_some, ↓reduceIte, Nat.reduceEqDiff, Nat.reduceAdd, Nat.reduceMul, Nat.reduceSub, List.nil_append, List.append_nil, List.cons_append, List.map_cons, List.map_nil, true_and, and_true, AS.fin, pick, dedup, List.mem_cons, List.not_mem_nil, or_false, false_or, List.size_toArray, List.length_cons, List.length_nil, loadAV, List.drop_zero, List.drop_succ_cons, List.take_zero, List.take_succ_cons, List.getElem?_cons_zero, List.getElem?_cons_succ, List.head?_cons, List.mapM_cons, List.mapM_nil, Option.bind_eq_bind, Option.pure_def, deeps3, deep3, deep2, deep1, deeps, deeps2, mixInts, AV.plain, mk, mkD, DCon.lift, DCon.runC, ren3, ren2, ren1, numb, List.zipIdx_nil, List.zipIdx_cons, List.all_nil, List.all_cons, Nat.reduceLeDiff, List.range, List.range.loop, Ty.sz, beq_self_eq_true, Bool.and_self, and_self, Ty.ofC, AO.isDead, Nat.reduceLT, if_true, Nat.zero_add, Nat.add_zero, ite_true, Nat.le_refl, Bool.false_eq_true, reduceCtorEq, if_false, ite_false, binAV, AO.ren, AV.isCell, fillAV, List.set_cons_zero, List.set_cons_succ, Ty.cells, Ty.flat, Ty.dflt, List.getD_cons_zero, List.getD_cons_succ, Int.reduceToNat, Int.reduceSub, Int.reduceAdd, Int.reduceMul, Int.reduceNeg, forall_eq_or_imp, forall_eq, gdL, id_eq, Nat.lt_irrefl, srcOf, List.replicate_succ, List.replicate_zero, dite_true, List.isEmpty_cons, Option.isSome_some, List.length_append, List.length_singleton, bne_self_eq_false, Bool.not_true, Bool.not_false, conF, asArgs, asArg, asTy, asI1, asB1, asS1, asL1, canons, canon, Fork.true_, Fork.false_, bne, Bool.not_not, List.length_map, pickO, AS.over, TI.bl, bne_iff_ne, AS.over2, without, keys, List.mem_singleton, memOp2, memOp3, absorb, abInt, abBool, abStr, abList, gones, Int.toNat_natCast, List.take_length, subE, List.nodup_cons, List.nodup_nil, not_false_eq_true, Nat.sub_self, conR, asG, asI, asBo, asStr, asIs, asBs, asE4, asI2, asI3, asLL, asLLL, Th_int, Th_Sint, Th_bool, Th_implDealing, Th_implGroup, Th_string, G_rZero, c_sAt, c_sBad, hL])
    | ((with_reducible refine ens_step ?_ (fun hE => ?_)); · ((repeat' with_reducible apply And.intro) <;> first | with_reducible assumption | omega | exact True.intro | with_reducible rfl | (show ByteArray.size _ ≤ _; decide) | (simp; done) | (simp; omega) | rfl))
    | ((with_reducible refine And.intro ?_ ?_); · ((repeat' with_reducible apply And.intro) <;> first | with_reducible assumption | omega | exact True.intro | with_reducible rfl | (show ByteArray.size _ ≤ _; decide) | (simp; done) | (simp; omega) | rfl))
    | ((with_reducible refine Fork.intro (fun h' => ?_) (fun h' => ?_)) <;> (try simp only [Bool.not_eq_true', Bool.not_eq_false', bne] at h') <;> (replace hL := And.intro h' hL) <;> (try simp only [decide_eq_true_eq, decide_eq_false_iff_not, beq_iff_eq, beq_eq_false_iff_ne, ne_eq] at h'))
    | (with_reducible refine AWp.skipS ?_)
    | ((with_reducible refine AWp.condT rfl ?_))
    | ((with_reducible refine AWp.condF rfl ?_))
    | (with_reducible refine AWp.condB rfl ?_)
    | (with_reducible refine AWp.ret ?_)
    | (with_reducible refine seqQ_n ?_)
    | (with_reducible refine seqQ_ret ?_)
    | (with_reducible refine blkQ_ret ?_)
    | (with_reducible refine blkQ_n ?_)
    | (with_reducible refine seqQ_exit ?_)
    | (with_reducible refine blkQ_exit ?_)
    | (with_reducible refine blkQ_other (by decide) ?_)
    | (with_reducible refine AWp.block ?_)
    | (with_reducible refine AWp.exit ?_)
    | (with_reducible refine AWp.skip ?_)
    | ((with_reducible refine EndsAt_id ?_); (try subst_vars); (try simp only [zroB, hL, List.length_cons, List.length_nil, Nat.zero_add, Nat.reduceAdd, Bool.and_true, Bool.and_false, Bool.true_and, Bool.false_and, Bool.and_self, ↓reduceIte, Bool.false_eq_true, Bool.not_true, Bool.not_false, bne]); refine EndsAt.done [] (by first | exact .inr rfl | exact .inl rfl) rfl rfl ?_ ?_ <;> first | decide | (repeat' (first | rfl | apply And.intro | trivial)))
    | (with_reducible refine AWp.seq ?_)⟩
noncomputable def c_IsZeroDealingI : Con0 := conF [(.pair .int (.pair .int .int)), (.pair (.list .int) (.list .int)), .int] fun (⟨⟨p, q, g⟩, ⟨cs, ss⟩, i, _⟩ : (Int × Int × Int) × (List Int × List Int) × Int × Unit) => (True, .tup [.lit (.bool (vdl p q g cs ss && inr i 0 7 && zroB p q g cs ss i)), .lit (.bool (vdl p q g cs ss && inr i 0 7))], [])
noncomputable def G_IsZeroDealingI : List (FuncId × Con) := [(87, mk c_isValidDealingI), (73, mk c_within), (117, mk c_isZero)]
theorem G_IsZeroDealingI_ok : ∀ f C, (f, C) ∈ G_IsZeroDealingI → C.ok Try.prog f := by
  intro f C h
  simp only [G_IsZeroDealingI, List.mem_cons, Prod.mk.injEq, List.not_mem_nil, or_false] at h
  rcases h with ⟨rfl, rfl⟩ | ⟨rfl, rfl⟩ | ⟨rfl, rfl⟩
  · exact ok_isValidDealingI
  · exact ok_within
  · exact ok_isZero
set_option maxRecDepth 100000 in
set_option maxHeartbeats 4000000 in
theorem ok_IsZeroDealingI : (mk c_IsZeroDealingI).ok Try.prog 59 := okF (Θ := Th) (N := 21) (rs := [.tmp 6, .tmp 7]) Th_ok Try.func59 (by kernel_rfl) rfl Try.results59 (by decide) (by kernel_rfl) fun (⟨⟨p, q, g⟩, ⟨cs, ss⟩, i, _⟩ : (Int × Int × Int) × (List Int × List Int) × Int × Unit) => ⟨rfl, rfl, Nat.le_of_ble_eq_true rfl, fun hc w0 => by
  have hL := dmy_eq
  try dsimp only at hc
  try dsimp only
  refine AWp.body rfl ?_
  repeat' first
    | ((with_reducible refine hK _ _ ?_); clear hK K)
    | ((with_reducible refine hK _ _ (by kernel_rfl) ?_); clear hK K)
    | ((with_reducible refine AWp.pS Th_ok G_IsZeroDealingI_ok [0, 1, 2, 3, 4, 6, 7, 16] (by decide) ?_); intro K hK)
    | ((with_reducible refine AWp.dS (by kernel_rfl) Th_ok G_IsZeroDealingI_ok [0, 1, 2, 3, 4, 6, 7, 16] ?_); intro K hK)
    | ((with_reducible refine AWp.pE Th_ok G_IsZeroDealingI_ok [0, 1, 2, 3, 4, 6, 7, 16] (by decide) ?_); intro K hK)
    | ((with_reducible refine AWp.dE (by kernel_rfl) Th_ok G_IsZeroDealingI_ok [0, 1, 2, 3, 4, 6, 7, 16] ?_); intro K hK)
    | ((first | with_reducible refine runF_id ?_ | with_reducible refine stepF_id ?_); simp (maxSteps := 2000000) only [runF, stepF, forkOf, gdOf, List.toList_toArray, stepOp, look, opAV, pureOp, callOp, memOp, AS.ev, AS.get, AS.obj, initS, initFrom, AV.cells, AS.upd, Option.bind_some, Option.bind_none, Option.map_some, Option.map_none, Option.getD_none, Option.getD_some, ↓reduceIte, Nat.reduceEqDiff, Nat.reduceAdd, Nat.reduceMul, Nat.reduceSub, List.nil_append, List.append_nil, List.cons_append, List.map_cons, List.map_nil, true_and, and_true, AS.fin, pick, dedup, List.mem_cons, List.not_mem_nil, or_false, false_or, List.size_toArray, List.length_cons, List.length_nil, loadAV, List.drop_zero, List.drop_succ_cons, List.take_zero, List.take_succ_cons, List.getElem?_cons_zero, List.getElem?_cons_succ, List.head?_cons, List.mapM_cons, List.mapM_nil, Option.bind_eq_bind, Option.pure_def, deeps3, deep3, deep2, deep1, deeps, deeps2, mixInts, AV.plain, mk, mkD, DCon.lift, DCon.runC, ren3, ren2, ren1, numb, List.zipIdx_nil, List.zipIdx_cons, List.all_nil, List.all_cons, Nat.reduceLeDiff, List.range, List.range.loop, Ty.sz, beq_self_eq_true, Bool.and_self, and_self, Ty.ofC, AO.isDead, Nat.reduceLT, if_true, Nat.zero_add, Nat.add_zero, ite_true, Nat.le_refl, Bool.false_eq_true, reduceCtorEq, if_false, ite_false, binAV, AO.ren, AV.isCell, fillAV, List.set_cons_zero, List.set_cons_succ, Ty.cells, Ty.flat, Ty.dflt, List.getD_cons_zero, List.getD_cons_succ, Int.reduceToNat, Int.reduceSub, Int.reduceAdd, Int.reduceMul, Int.reduceNeg, forall_eq_or_imp, forall_eq, gdL, id_eq, Nat.lt_irrefl, srcOf, List.replicate_succ, List.replicate_zero, dite_true, List.isEmpty_cons, Option.isSome_some, List.length_append, List.length_singleton, bne_self_eq_false, Bool.not_true, Bool.not_false, conF, asArgs, asArg, asTy, asI1, asB1, asS1, asL1, canons, canon, Fork.true_, Fork.false_, bne, Bool.not_not, List.length_map, pickO, AS.over, TI.bl, bne_iff_ne, AS.over2, without, keys, List.mem_singleton, memOp2, memOp3, absorb, abInt, abBool, abStr, abList, gones, Int.toNat_natCast, List.take_length, subE, List.nodup_cons, List.nodup_nil, not_false_eq_true, Nat.sub_self, conR, asG, asI, asBo, asStr, asIs, asBs, asE4, asI2, asI3, asLL, asLLL, Th_int, Th_bool, Th_implDealing, Th_implGroup, Th_string, G_IsZeroDealingI, c_isValidDealingI, c_within, c_isZero, hL])
    | ((with_reducible refine ens_step ?_ (fun hE => ?_)); · ((repeat' with_reducible apply And.intro) <;> first | with_reducible assumption | omega | exact True.intro | with_reducible rfl | (show ByteArray.size _ ≤ _; decide) | (simp; done) | (simp; omega) | rfl))
    | ((with_reducible refine And.intro ?_ ?_); · ((repeat' with_reducible apply And.intro) <;> first | with_reducible assumption | omega | exact True.intro | with_reducible rfl | (show ByteArray.size _ ≤ _; decide) | (simp; done) | (simp; omega) | rfl))
    | ((with_reducible refine Fork.intro (fun h' => ?_) (fun h' => ?_)) <;> (try simp only [Bool.not_eq_true', Bool.not_eq_false', bne] at h') <;> (replace hL := And.intro h' hL) <;> (try simp only [decide_eq_true_eq, decide_eq_false_iff_not, beq_iff_eq, beq_eq_false_iff_ne, ne_eq] at h') <;> (try (have hvd := vdl_use h'; obtain ⟨hvs, hvd⟩ := hvd; have hsh := shB_of hvs; obtain ⟨hgd, hq7⟩ := hsh; have hG := M.goodB_of hgd; have hq2 := hG.q2; have hqp := hG.qp; have hp3 := hG.p3; have hpM := hG.pM; have hdl := dlB_use hvd; obtain ⟨hcl, hcb, hsl, hsb⟩ := hdl)) <;> (try (have hsh := shB_of h'; obtain ⟨hgd, hq7⟩ := hsh; have hG := M.goodB_of hgd; have hq2 := hG.q2; have hqp := hG.qp; have hp3 := hG.p3; have hpM := hG.pM)) <;> (try (have hdl := dlB_use h'; obtain ⟨hcl, hcb, hsl, hsb⟩ := hdl)) <;> (try (have hin := inr_t h')))
    | (with_reducible refine AWp.skipS ?_)
    | ((with_reducible refine AWp.condT rfl ?_))
    | ((with_reducible refine AWp.condF rfl ?_))
    | (with_reducible refine AWp.condB rfl ?_)
    | (with_reducible refine AWp.ret ?_)
    | (with_reducible refine seqQ_n ?_)
    | (with_reducible refine seqQ_ret ?_)
    | (with_reducible refine blkQ_ret ?_)
    | (with_reducible refine blkQ_n ?_)
    | (with_reducible refine seqQ_exit ?_)
    | (with_reducible refine blkQ_exit ?_)
    | (with_reducible refine blkQ_other (by decide) ?_)
    | (with_reducible refine AWp.block ?_)
    | (with_reducible refine AWp.exit ?_)
    | (with_reducible refine AWp.skip ?_)
    | ((with_reducible refine EndsAt_id ?_); (try subst_vars); (try simp only [PBad, hL, List.length_cons, List.length_nil, Nat.zero_add, Nat.reduceAdd, Bool.and_true, Bool.and_false, Bool.true_and, Bool.false_and, Bool.and_self, ↓reduceIte, Bool.false_eq_true, Bool.not_true, Bool.not_false, bne]); refine EndsAt.done [] (by first | exact .inr rfl | exact .inl rfl) rfl rfl ?_ ?_ <;> first | decide | (repeat' (first | rfl | apply And.intro | trivial)))
    | (with_reducible refine AWp.seq ?_)⟩
noncomputable def c_IsZeroDealingS : Con0 := conF [(.pair .int (.pair .int .int)), (.pair (.list .int) (.list .int)), .int] fun (⟨⟨p, q, g⟩, ⟨cs, ss⟩, i, _⟩ : (Int × Int × Int) × (List Int × List Int) × Int × Unit) => (True, .tup [.lit (.bool (vdl p q g cs ss && inr i 0 7 && zroB p q g cs ss i)), .lit (.bool (vdl p q g cs ss && inr i 0 7))], [])
noncomputable def G_IsZeroDealingS : List (FuncId × Con) := [(75, mk c_sGroup), (85, mk c_sDealing), (69, mk c_l1In), (116, mk c_rZero)]
theorem G_IsZeroDealingS_ok : ∀ f C, (f, C) ∈ G_IsZeroDealingS → C.ok Try.prog f := by
  intro f C h
  simp only [G_IsZeroDealingS, List.mem_cons, Prod.mk.injEq, List.not_mem_nil, or_false] at h
  rcases h with ⟨rfl, rfl⟩ | ⟨rfl, rfl⟩ | ⟨rfl, rfl⟩ | ⟨rfl, rfl⟩
  · exact ok_sGroup
  · exact ok_sDealing
  · exact ok_l1In
  · exact ok_rZero
set_option maxRecDepth 100000 in
set_option maxHeartbeats 4000000 in
theorem ok_IsZeroDealingS : (mk c_IsZeroDealingS).ok Try.prog 58 := okF (Θ := Th) (N := 26) (rs := [.tmp 6, .tmp 7]) Th_ok Try.func58 (by kernel_rfl) rfl Try.results58 (by decide) (by kernel_rfl) fun (⟨⟨p, q, g⟩, ⟨cs, ss⟩, i, _⟩ : (Int × Int × Int) × (List Int × List Int) × Int × Unit) => ⟨rfl, rfl, Nat.le_of_ble_eq_true rfl, fun hc w0 => by
  have hL := dmy_eq
  try dsimp only at hc
  try dsimp only
  refine AWp.body rfl ?_
  repeat' first
    | ((with_reducible refine hK _ _ ?_); clear hK K)
    | ((with_reducible refine hK _ _ (by kernel_rfl) ?_); clear hK K)
    | ((with_reducible refine AWp.pS Th_ok G_IsZeroDealingS_ok [0, 1, 2, 3, 4, 6, 7, 21] (by decide) ?_); intro K hK)
    | ((with_reducible refine AWp.dS (by kernel_rfl) Th_ok G_IsZeroDealingS_ok [0, 1, 2, 3, 4, 6, 7, 21] ?_); intro K hK)
    | ((with_reducible refine AWp.pE Th_ok G_IsZeroDealingS_ok [0, 1, 2, 3, 4, 6, 7, 21] (by decide) ?_); intro K hK)
    | ((with_reducible refine AWp.dE (by kernel_rfl) Th_ok G_IsZeroDealingS_ok [0, 1, 2, 3, 4, 6, 7, 21] ?_); intro K hK)
    | ((first | with_reducible refine runF_id ?_ | with_reducible refine stepF_id ?_); simp (maxSteps := 2000000) only [runF, stepF, forkOf, gdOf, List.toList_toArray, stepOp, look, opAV, pureOp, callOp, memOp, AS.ev, AS.get, AS.obj, initS, initFrom, AV.cells, AS.upd, Option.bind_some, Option.bind_none, Option.map_some, Option.map_none, Option.getD_none, Option.getD_some, ↓reduceIte, Nat.reduceEqDiff, Nat.reduceAdd, Nat.reduceMul, Nat.reduceSub, List.nil_append, List.append_nil, List.cons_append, List.map_cons, List.map_nil, true_and, and_true, AS.fin, pick, dedup, List.mem_cons, List.not_mem_nil, or_false, false_or, List.size_toArray, List.length_cons, List.length_nil, loadAV, List.drop_zero, List.drop_succ_cons, List.take_zero, List.take_succ_cons, List.getElem?_cons_zero, List.getElem?_cons_succ, List.head?_cons, List.mapM_cons, List.mapM_nil, Option.bind_eq_bind, Option.pure_def, deeps3, deep3, deep2, deep1, deeps, deeps2, mixInts, AV.plain, mk, mkD, DCon.lift, DCon.runC, ren3, ren2, ren1, numb, List.zipIdx_nil, List.zipIdx_cons, List.all_nil, List.all_cons, Nat.reduceLeDiff, List.range, List.range.loop, Ty.sz, beq_self_eq_true, Bool.and_self, and_self, Ty.ofC, AO.isDead, Nat.reduceLT, if_true, Nat.zero_add, Nat.add_zero, ite_true, Nat.le_refl, Bool.false_eq_true, reduceCtorEq, if_false, ite_false, binAV, AO.ren, AV.isCell, fillAV, List.set_cons_zero, List.set_cons_succ, Ty.cells, Ty.flat, Ty.dflt, List.getD_cons_zero, List.getD_cons_succ, Int.reduceToNat, Int.reduceSub, Int.reduceAdd, Int.reduceMul, Int.reduceNeg, forall_eq_or_imp, forall_eq, gdL, id_eq, Nat.lt_irrefl, srcOf, List.replicate_succ, List.replicate_zero, dite_true, List.isEmpty_cons, Option.isSome_some, List.length_append, List.length_singleton, bne_self_eq_false, Bool.not_true, Bool.not_false, conF, asArgs, asArg, asTy, asI1, asB1, asS1, asL1, canons, canon, Fork.true_, Fork.false_, bne, Bool.not_not, List.length_map, pickO, AS.over, TI.bl, bne_iff_ne, AS.over2, without, keys, List.mem_singleton, memOp2, memOp3, absorb, abInt, abBool, abStr, abList, gones, Int.toNat_natCast, List.take_length, subE, List.nodup_cons, List.nodup_nil, not_false_eq_true, Nat.sub_self, conR, asG, asI, asBo, asStr, asIs, asBs, asE4, asI2, asI3, asLL, asLLL, Th_int, Th_bool, Th_implDealing, Th_implGroup, Th_lawsEqualLog, Th_lawsGroup, Th_string, G_IsZeroDealingS, c_sGroup, c_sDealing, c_l1In, c_rZero, hL])
    | ((with_reducible refine ens_step ?_ (fun hE => ?_)); · ((repeat' with_reducible apply And.intro) <;> first | with_reducible assumption | omega | exact True.intro | with_reducible rfl | (show ByteArray.size _ ≤ _; decide) | (simp; done) | (simp; omega) | rfl))
    | ((with_reducible refine And.intro ?_ ?_); · ((repeat' with_reducible apply And.intro) <;> first | with_reducible assumption | omega | exact True.intro | with_reducible rfl | (show ByteArray.size _ ≤ _; decide) | (simp; done) | (simp; omega) | rfl))
    | ((with_reducible refine Fork.intro (fun h' => ?_) (fun h' => ?_)) <;> (try simp only [Bool.not_eq_true', Bool.not_eq_false', bne] at h') <;> (replace hL := And.intro h' hL) <;> (try simp only [decide_eq_true_eq, decide_eq_false_iff_not, beq_iff_eq, beq_eq_false_iff_ne, ne_eq] at h') <;> (try (have hvd := vdl_use h'; obtain ⟨hvs, hvd⟩ := hvd; have hsh := shB_of hvs; obtain ⟨hgd, hq7⟩ := hsh; have hG := M.goodB_of hgd; have hq2 := hG.q2; have hqp := hG.qp; have hp3 := hG.p3; have hpM := hG.pM; have hdl := dlB_use hvd; obtain ⟨hcl, hcb, hsl, hsb⟩ := hdl)) <;> (try (have hsh := shB_of h'; obtain ⟨hgd, hq7⟩ := hsh; have hG := M.goodB_of hgd; have hq2 := hG.q2; have hqp := hG.qp; have hp3 := hG.p3; have hpM := hG.pM)) <;> (try (have hdl := dlB_use h'; obtain ⟨hcl, hcb, hsl, hsb⟩ := hdl)) <;> (try (have hin := inr_t h')))
    | (with_reducible refine AWp.skipS ?_)
    | ((with_reducible refine AWp.condT rfl ?_))
    | ((with_reducible refine AWp.condF rfl ?_))
    | (with_reducible refine AWp.condB rfl ?_)
    | (with_reducible refine AWp.ret ?_)
    | (with_reducible refine seqQ_n ?_)
    | (with_reducible refine seqQ_ret ?_)
    | (with_reducible refine blkQ_ret ?_)
    | (with_reducible refine blkQ_n ?_)
    | (with_reducible refine seqQ_exit ?_)
    | (with_reducible refine blkQ_exit ?_)
    | (with_reducible refine blkQ_other (by decide) ?_)
    | (with_reducible refine AWp.block ?_)
    | (with_reducible refine AWp.exit ?_)
    | (with_reducible refine AWp.skip ?_)
    | ((with_reducible refine EndsAt_id ?_); (try subst_vars); (try simp only [vdl, hL, List.length_cons, List.length_nil, Nat.zero_add, Nat.reduceAdd, Bool.and_true, Bool.and_false, Bool.true_and, Bool.false_and, Bool.and_self, ↓reduceIte, Bool.false_eq_true, Bool.not_true, Bool.not_false, bne]); refine EndsAt.done [] (by first | exact .inr rfl | exact .inl rfl) rfl rfl ?_ ?_ <;> first | decide | (repeat' (first | rfl | apply And.intro | trivial)))
    | (with_reducible refine AWp.seq ?_)⟩
noncomputable def c_hasKey : Con0 := conF [(.pair .int (.pair .int .int)), (.pair (.list .int) (.list .int))] fun (⟨⟨p, q, g⟩, ⟨cs, ss⟩, _⟩ : (Int × Int × Int) × (List Int × List Int) × Unit) => (True, .lit (.bool (vdl p q g cs ss)), [])
noncomputable def G_hasKey : List (FuncId × Con) := [(87, mk c_isValidDealingI)]
theorem G_hasKey_ok : ∀ f C, (f, C) ∈ G_hasKey → C.ok Try.prog f := by
  intro f C h
  simp only [G_hasKey, List.mem_cons, Prod.mk.injEq, List.not_mem_nil, or_false] at h
  obtain ⟨rfl, rfl⟩ := h
  exact ok_isValidDealingI
set_option maxRecDepth 100000 in
set_option maxHeartbeats 4000000 in
theorem ok_hasKey : (mk c_hasKey).ok Try.prog 115 := okF (Θ := Th) (N := 8) (rs := [.tmp 4]) Th_ok Try.func115 (by kernel_rfl) rfl Try.results115 (by decide) (by kernel_rfl) fun (⟨⟨p, q, g⟩, ⟨cs, ss⟩, _⟩ : (Int × Int × Int) × (List Int × List Int) × Unit) => ⟨rfl, rfl, Nat.le_of_ble_eq_true rfl, fun hc w0 => by
  have hL := dmy_eq
  try dsimp only at hc
  try dsimp only
  refine AWp.body rfl ?_
  repeat' first
    | ((with_reducible refine hK _ _ ?_); clear hK K)
    | ((with_reducible refine hK _ _ (by kernel_rfl) ?_); clear hK K)
    | ((with_reducible refine AWp.pS Th_ok G_hasKey_ok [0, 1, 2, 3, 4] (by decide) ?_); intro K hK)
    | ((with_reducible refine AWp.dS (by kernel_rfl) Th_ok G_hasKey_ok [0, 1, 2, 3, 4] ?_); intro K hK)
    | ((with_reducible refine AWp.pE Th_ok G_hasKey_ok [0, 1, 2, 3, 4] (by decide) ?_); intro K hK)
    | ((with_reducible refine AWp.dE (by kernel_rfl) Th_ok G_hasKey_ok [0, 1, 2, 3, 4] ?_); intro K hK)
    | ((first | with_reducible refine runF_id ?_ | with_reducible refine stepF_id ?_); simp (maxSteps := 2000000) only [runF, stepF, forkOf, gdOf, List.toList_toArray, stepOp, look, opAV, pureOp, callOp, memOp, AS.ev, AS.get, AS.obj, initS, initFrom, AV.cells, AS.upd, Option.bind_some, Option.bind_none, Option.map_some, Option.map_none, Option.getD_none, Option.getD_some, ↓reduceIte, Nat.reduceEqDiff, Nat.reduceAdd, Nat.reduceMul, Nat.reduceSub, List.nil_append, List.append_nil, List.cons_append, List.map_cons, List.map_nil, true_and, and_true, AS.fin, pick, dedup, List.mem_cons, List.not_mem_nil, or_false, false_or, List.size_toArray, List.length_cons, List.length_nil, loadAV, List.drop_zero, List.drop_succ_cons, List.take_zero, List.take_succ_cons, List.getElem?_cons_zero, List.getElem?_cons_succ, List.head?_cons, List.mapM_cons, List.mapM_nil, Option.bind_eq_bind, Option.pure_def, deeps3, deep3, deep2, deep1, deeps, deeps2, mixInts, AV.plain, mk, mkD, DCon.lift, DCon.runC, ren3, ren2, ren1, numb, List.zipIdx_nil, List.zipIdx_cons, List.all_nil, List.all_cons, Nat.reduceLeDiff, List.range, List.range.loop, Ty.sz, beq_self_eq_true, Bool.and_self, and_self, Ty.ofC, AO.isDead, Nat.reduceLT, if_true, Nat.zero_add, Nat.add_zero, ite_true, Nat.le_refl, Bool.false_eq_true, reduceCtorEq, if_false, ite_false, binAV, AO.ren, AV.isCell, fillAV, List.set_cons_zero, List.set_cons_succ, Ty.cells, Ty.flat, Ty.dflt, List.getD_cons_zero, List.getD_cons_succ, Int.reduceToNat, Int.reduceSub, Int.reduceAdd, Int.reduceMul, Int.reduceNeg, forall_eq_or_imp, forall_eq, gdL, id_eq, Nat.lt_irrefl, srcOf, List.replicate_succ, List.replicate_zero, dite_true, List.isEmpty_cons, Option.isSome_some, List.length_append, List.length_singleton, bne_self_eq_false, Bool.not_true, Bool.not_false, conF, asArgs, asArg, asTy, asI1, asB1, asS1, asL1, canons, canon, Fork.true_, Fork.false_, bne, Bool.not_not, List.length_map, pickO, AS.over, TI.bl, bne_iff_ne, AS.over2, without, keys, List.mem_singleton, memOp2, memOp3, absorb, abInt, abBool, abStr, abList, gones, Int.toNat_natCast, List.take_length, subE, List.nodup_cons, List.nodup_nil, not_false_eq_true, Nat.sub_self, conR, asG, asI, asBo, asStr, asIs, asBs, asE4, asI2, asI3, asLL, asLLL, Th_int, Th_implDealing, Th_implGroup, Th_implSharedKey, G_hasKey, c_isValidDealingI, hL])
    | ((with_reducible refine ens_step ?_ (fun hE => ?_)); · ((repeat' with_reducible apply And.intro) <;> first | with_reducible assumption | omega | exact True.intro | with_reducible rfl | (show ByteArray.size _ ≤ _; decide) | (simp; done) | (simp; omega) | rfl))
    | ((with_reducible refine And.intro ?_ ?_); · ((repeat' with_reducible apply And.intro) <;> first | with_reducible assumption | omega | exact True.intro | with_reducible rfl | (show ByteArray.size _ ≤ _; decide) | (simp; done) | (simp; omega) | rfl))
    | ((with_reducible refine Fork.intro (fun h' => ?_) (fun h' => ?_)) <;> (try simp only [Bool.not_eq_true', Bool.not_eq_false', bne] at h') <;> (replace hL := And.intro h' hL) <;> (try simp only [decide_eq_true_eq, decide_eq_false_iff_not, beq_iff_eq, beq_eq_false_iff_ne, ne_eq] at h'))
    | (with_reducible refine AWp.skipS ?_)
    | ((with_reducible refine AWp.condT rfl ?_))
    | ((with_reducible refine AWp.condF rfl ?_))
    | (with_reducible refine AWp.condB rfl ?_)
    | (with_reducible refine AWp.ret ?_)
    | (with_reducible refine seqQ_n ?_)
    | (with_reducible refine seqQ_ret ?_)
    | (with_reducible refine blkQ_ret ?_)
    | (with_reducible refine blkQ_n ?_)
    | (with_reducible refine seqQ_exit ?_)
    | (with_reducible refine blkQ_exit ?_)
    | (with_reducible refine blkQ_other (by decide) ?_)
    | (with_reducible refine AWp.block ?_)
    | (with_reducible refine AWp.exit ?_)
    | (with_reducible refine AWp.skip ?_)
    | ((with_reducible refine EndsAt_id ?_); (try subst_vars); refine EndsAt.done [] (by first | exact .inr rfl | exact .inl rfl) rfl rfl ?_ ?_ <;> first | decide | (repeat' (first | rfl | apply And.intro | trivial)))
    | (with_reducible refine AWp.seq ?_)⟩
noncomputable def c_ZeroDealingI : Con0 := conF [(.pair .int (.pair .int .int)), .int, (.list .int), .int] fun (⟨⟨p, q, g⟩, i, cs, n, _⟩ : (Int × Int × Int) × Int × (List Int) × Int × Unit) => (True, .tup [.agg [.own 0 (PZd p q g i cs n).1.length, .own 1 (PZd p q g i cs n).2.length], .lit (.bool (okZd p q g i cs n))], [.row 3 .int (PZd p q g i cs n).1, .row 3 .int (PZd p q g i cs n).2])
noncomputable def G_ZeroDealingI : List (FuncId × Con) := [(79, mk c_isSharing), (73, mk c_within), (80, mk c_areExps), (112, mk c_exp), (111, mk c_mulPolys), (83, mk c_deal)]
theorem G_ZeroDealingI_ok : ∀ f C, (f, C) ∈ G_ZeroDealingI → C.ok Try.prog f := by
  intro f C h
  simp only [G_ZeroDealingI, List.mem_cons, Prod.mk.injEq, List.not_mem_nil, or_false] at h
  rcases h with ⟨rfl, rfl⟩ | ⟨rfl, rfl⟩ | ⟨rfl, rfl⟩ | ⟨rfl, rfl⟩ | ⟨rfl, rfl⟩ | ⟨rfl, rfl⟩
  · exact ok_isSharing
  · exact ok_within
  · exact ok_areExps
  · exact ok_exp
  · exact ok_mulPolys
  · exact ok_deal
set_option maxRecDepth 100000 in
set_option maxHeartbeats 4000000 in
theorem ok_ZeroDealingI : (mk c_ZeroDealingI).ok Try.prog 52 := okF (Θ := Th) (N := 50) (rs := [.cell 8 48, .tmp 9]) Th_ok Try.func52 (by kernel_rfl) rfl Try.results52 (by decide) (by kernel_rfl) fun (⟨⟨p, q, g⟩, i, cs, n, _⟩ : (Int × Int × Int) × Int × (List Int) × Int × Unit) => ⟨rfl, rfl, Nat.le_of_ble_eq_true rfl, fun hc w0 => by
  have hL := dmy_eq
  try dsimp only at hc
  try dsimp only
  refine AWp.body rfl ?_
  repeat' first
    | ((with_reducible refine hK _ _ ?_); clear hK K)
    | ((with_reducible refine hK _ _ (by kernel_rfl) ?_); clear hK K)
    | ((with_reducible refine AWp.pS Th_ok G_ZeroDealingI_ok [0, 1, 2, 3, 4, 8, 9, 36] (by decide) ?_); intro K hK)
    | ((with_reducible refine AWp.dS (by kernel_rfl) Th_ok G_ZeroDealingI_ok [0, 1, 2, 3, 4, 8, 9, 36] ?_); intro K hK)
    | ((with_reducible refine AWp.pE Th_ok G_ZeroDealingI_ok [0, 1, 2, 3, 4, 8, 9, 36] (by decide) ?_); intro K hK)
    | ((with_reducible refine AWp.dE (by kernel_rfl) Th_ok G_ZeroDealingI_ok [0, 1, 2, 3, 4, 8, 9, 36] ?_); intro K hK)
    | ((first | with_reducible refine runF_id ?_ | with_reducible refine stepF_id ?_); simp (maxSteps := 2000000) only [runF, stepF, forkOf, gdOf, List.toList_toArray, stepOp, look, opAV, pureOp, callOp, memOp, AS.ev, AS.get, AS.obj, initS, initFrom, AV.cells, AS.upd, Option.bind_some, Option.bind_none, Option.map_some, Option.map_none, Option.getD_none, Option.getD_some, ↓reduceIte, Nat.reduceEqDiff, Nat.reduceAdd, Nat.reduceMul, Nat.reduceSub, List.nil_append, List.append_nil, List.cons_append, List.map_cons, List.map_nil, true_and, and_true, AS.fin, pick, dedup, List.mem_cons, List.not_mem_nil, or_false, false_or, List.size_toArray, List.length_cons, List.length_nil, loadAV, List.drop_zero, List.drop_succ_cons, List.take_zero, List.take_succ_cons, List.getElem?_cons_zero, List.getElem?_cons_succ, List.head?_cons, List.mapM_cons, List.mapM_nil, Option.bind_eq_bind, Option.pure_def, deeps3, deep3, deep2, deep1, deeps, deeps2, mixInts, AV.plain, mk, mkD, DCon.lift, DCon.runC, ren3, ren2, ren1, numb, List.zipIdx_nil, List.zipIdx_cons, List.all_nil, List.all_cons, Nat.reduceLeDiff, List.range, List.range.loop, Ty.sz, beq_self_eq_true, Bool.and_self, and_self, Ty.ofC, AO.isDead, Nat.reduceLT, if_true, Nat.zero_add, Nat.add_zero, ite_true, Nat.le_refl, Bool.false_eq_true, reduceCtorEq, if_false, ite_false, binAV, AO.ren, AV.isCell, fillAV, List.set_cons_zero, List.set_cons_succ, Ty.cells, Ty.flat, Ty.dflt, List.getD_cons_zero, List.getD_cons_succ, Int.reduceToNat, Int.reduceSub, Int.reduceAdd, Int.reduceMul, Int.reduceNeg, forall_eq_or_imp, forall_eq, gdL, id_eq, Nat.lt_irrefl, srcOf, List.replicate_succ, List.replicate_zero, dite_true, List.isEmpty_cons, Option.isSome_some, List.length_append, List.length_singleton, bne_self_eq_false, Bool.not_true, Bool.not_false, conF, asArgs, asArg, asTy, asI1, asB1, asS1, asL1, canons, canon, Fork.true_, Fork.false_, bne, Bool.not_not, List.length_map, pickO, AS.over, TI.bl, bne_iff_ne, AS.over2, without, keys, List.mem_singleton, memOp2, memOp3, absorb, abInt, abBool, abStr, abList, gones, Int.toNat_natCast, List.take_length, subE, List.nodup_cons, List.nodup_nil, not_false_eq_true, Nat.sub_self, conR, asG, asI, asBo, asStr, asIs, asBs, asE4, asI2, asI3, asLL, asLLL, Th_int, Th_Sint, Th_bool, Th_implBases, Th_implDealing, Th_implEqualLog, Th_implGroup, Th_lawsEqualLog, Th_lawsGroup, G_ZeroDealingI, c_isSharing, c_within, c_areExps, c_exp, c_mulPolys, c_deal, hL])
    | ((with_reducible refine ens_step ?_ (fun hE => ?_)); · ((repeat' with_reducible apply And.intro) <;> first | with_reducible assumption | omega | exact True.intro | with_reducible rfl | (show ByteArray.size _ ≤ _; decide) | (simp; done) | (simp; omega) | rfl))
    | ((with_reducible refine And.intro ?_ ?_); · ((repeat' with_reducible apply And.intro) <;> first | with_reducible assumption | omega | exact True.intro | with_reducible rfl | (show ByteArray.size _ ≤ _; decide) | (simp; done) | (simp; omega) | rfl))
    | ((with_reducible refine Fork.intro (fun h' => ?_) (fun h' => ?_)) <;> (try simp only [Bool.not_eq_true', Bool.not_eq_false', bne] at h') <;> (replace hL := And.intro h' hL) <;> (try simp only [decide_eq_true_eq, decide_eq_false_iff_not, beq_iff_eq, beq_eq_false_iff_ne, ne_eq] at h') <;> (try (have hsh := shB_of h'; obtain ⟨hgd, hq7⟩ := hsh; have hG := M.goodB_of hgd; have hq2 := hG.q2; have hqp := hG.qp; have hp3 := hG.p3; have hpM := hG.pM)) <;> (try (have hin := inr_t h')) <;> (try (have hex := expsB_all12' h'; have hni := emod_bd (n := -i) (q := q) (by omega); have hgb2 : ∀ x ∈ [(-i) % q, 1], 0 ≤ x ∧ x < q := (by intro x hx; simp only [List.mem_cons, List.not_mem_nil, or_false] at hx; rcases hx with rfl | rfl <;> omega); have hmp := mulP_ok (f := cs) (g := [(-i) % q, 1]) hq2; obtain ⟨hml, hmb⟩ := hmp; simp only [List.length_cons, List.length_nil] at hml; replace hL := And.intro hml hL)))
    | (with_reducible refine AWp.skipS ?_)
    | ((with_reducible refine AWp.condT rfl ?_))
    | ((with_reducible refine AWp.condF rfl ?_))
    | (with_reducible refine AWp.condB rfl ?_)
    | ((with_reducible refine AWp.ret_id ?_); refine AWp.sub (Sub.nilBox 8 0 100000 3 .int rfl rfl rfl) ?_)
    | ((with_reducible refine AWp.ret_id ?_); refine AWp.sub (Sub.nilBox 8 1 100001 3 .int rfl rfl rfl) ?_)
    | (with_reducible refine AWp.ret ?_)
    | (with_reducible refine seqQ_n ?_)
    | (with_reducible refine seqQ_ret ?_)
    | (with_reducible refine blkQ_ret ?_)
    | (with_reducible refine blkQ_n ?_)
    | (with_reducible refine seqQ_exit ?_)
    | (with_reducible refine blkQ_exit ?_)
    | (with_reducible refine blkQ_other (by decide) ?_)
    | (with_reducible refine AWp.block ?_)
    | (with_reducible refine AWp.exit ?_)
    | (with_reducible refine AWp.skip ?_)
    | ((with_reducible refine EndsAt_id ?_); (try subst_vars); (try simp only [PZd, okZd, dealC_len, dealS_len, hL, List.length_cons, List.length_nil, Nat.zero_add, Nat.reduceAdd, Bool.and_true, Bool.and_false, Bool.true_and, Bool.false_and, Bool.and_self, ↓reduceIte, Bool.false_eq_true, Bool.not_true, Bool.not_false, bne]); refine EndsAt.done [_, _] (by first | exact .inr rfl | exact .inl rfl) rfl rfl ?_ ?_ <;> first | decide | (repeat' (first | rfl | apply And.intro | trivial)))
    | (with_reducible refine AWp.seq ?_)⟩
noncomputable def c_ZeroDealingS : Con0 := conF [(.pair .int (.pair .int .int)), .int, (.list .int), .int] fun (⟨⟨p, q, g⟩, i, cs, n, _⟩ : (Int × Int × Int) × Int × (List Int) × Int × Unit) => (True, .tup [.agg [.own 0 (PZd p q g i cs n).1.length, .own 1 (PZd p q g i cs n).2.length], .lit (.bool (okZd p q g i cs n))], [.row 3 .int (PZd p q g i cs n).1, .row 3 .int (PZd p q g i cs n).2])
noncomputable def G_ZeroDealingS : List (FuncId × Con) := [(75, mk c_sGroup), (69, mk c_l1In), (76, mk c_gExps), (110, mk c_nMod), (109, mk c_yMul), (82, mk c_sDeal)]
theorem G_ZeroDealingS_ok : ∀ f C, (f, C) ∈ G_ZeroDealingS → C.ok Try.prog f := by
  intro f C h
  simp only [G_ZeroDealingS, List.mem_cons, Prod.mk.injEq, List.not_mem_nil, or_false] at h
  rcases h with ⟨rfl, rfl⟩ | ⟨rfl, rfl⟩ | ⟨rfl, rfl⟩ | ⟨rfl, rfl⟩ | ⟨rfl, rfl⟩ | ⟨rfl, rfl⟩
  · exact ok_sGroup
  · exact ok_l1In
  · exact ok_gExps
  · exact ok_nMod
  · exact ok_yMul
  · exact ok_sDeal
set_option maxRecDepth 100000 in
set_option maxHeartbeats 4000000 in
theorem ok_ZeroDealingS : (mk c_ZeroDealingS).ok Try.prog 51 := okF (Θ := Th) (N := 51) (rs := [.cell 8 48, .tmp 9]) Th_ok Try.func51 (by kernel_rfl) rfl Try.results51 (by decide) (by kernel_rfl) fun (⟨⟨p, q, g⟩, i, cs, n, _⟩ : (Int × Int × Int) × Int × (List Int) × Int × Unit) => ⟨rfl, rfl, Nat.le_of_ble_eq_true rfl, fun hc w0 => by
  have hL := dmy_eq
  try dsimp only at hc
  try dsimp only
  refine AWp.body rfl ?_
  repeat' first
    | ((with_reducible refine hK _ _ ?_); clear hK K)
    | ((with_reducible refine hK _ _ (by kernel_rfl) ?_); clear hK K)
    | ((with_reducible refine AWp.pS Th_ok G_ZeroDealingS_ok [0, 1, 2, 3, 4, 8, 9, 36] (by decide) ?_); intro K hK)
    | ((with_reducible refine AWp.dS (by kernel_rfl) Th_ok G_ZeroDealingS_ok [0, 1, 2, 3, 4, 8, 9, 36] ?_); intro K hK)
    | ((with_reducible refine AWp.pE Th_ok G_ZeroDealingS_ok [0, 1, 2, 3, 4, 8, 9, 36] (by decide) ?_); intro K hK)
    | ((with_reducible refine AWp.dE (by kernel_rfl) Th_ok G_ZeroDealingS_ok [0, 1, 2, 3, 4, 8, 9, 36] ?_); intro K hK)
    | ((first | with_reducible refine runF_id ?_ | with_reducible refine stepF_id ?_); simp (maxSteps := 2000000) only [runF, stepF, forkOf, gdOf, List.toList_toArray, stepOp, look, opAV, pureOp, callOp, memOp, AS.ev, AS.get, AS.obj, initS, initFrom, AV.cells, AS.upd, Option.bind_some, Option.bind_none, Option.map_some, Option.map_none, Option.getD_none, Option.getD_some, ↓reduceIte, Nat.reduceEqDiff, Nat.reduceAdd, Nat.reduceMul, Nat.reduceSub, List.nil_append, List.append_nil, List.cons_append, List.map_cons, List.map_nil, true_and, and_true, AS.fin, pick, dedup, List.mem_cons, List.not_mem_nil, or_false, false_or, List.size_toArray, List.length_cons, List.length_nil, loadAV, List.drop_zero, List.drop_succ_cons, List.take_zero, List.take_succ_cons, List.getElem?_cons_zero, List.getElem?_cons_succ, List.head?_cons, List.mapM_cons, List.mapM_nil, Option.bind_eq_bind, Option.pure_def, deeps3, deep3, deep2, deep1, deeps, deeps2, mixInts, AV.plain, mk, mkD, DCon.lift, DCon.runC, ren3, ren2, ren1, numb, List.zipIdx_nil, List.zipIdx_cons, List.all_nil, List.all_cons, Nat.reduceLeDiff, List.range, List.range.loop, Ty.sz, beq_self_eq_true, Bool.and_self, and_self, Ty.ofC, AO.isDead, Nat.reduceLT, if_true, Nat.zero_add, Nat.add_zero, ite_true, Nat.le_refl, Bool.false_eq_true, reduceCtorEq, if_false, ite_false, binAV, AO.ren, AV.isCell, fillAV, List.set_cons_zero, List.set_cons_succ, Ty.cells, Ty.flat, Ty.dflt, List.getD_cons_zero, List.getD_cons_succ, Int.reduceToNat, Int.reduceSub, Int.reduceAdd, Int.reduceMul, Int.reduceNeg, forall_eq_or_imp, forall_eq, gdL, id_eq, Nat.lt_irrefl, srcOf, List.replicate_succ, List.replicate_zero, dite_true, List.isEmpty_cons, Option.isSome_some, List.length_append, List.length_singleton, bne_self_eq_false, Bool.not_true, Bool.not_false, conF, asArgs, asArg, asTy, asI1, asB1, asS1, asL1, canons, canon, Fork.true_, Fork.false_, bne, Bool.not_not, List.length_map, pickO, AS.over, TI.bl, bne_iff_ne, AS.over2, without, keys, List.mem_singleton, memOp2, memOp3, absorb, abInt, abBool, abStr, abList, gones, Int.toNat_natCast, List.take_length, subE, List.nodup_cons, List.nodup_nil, not_false_eq_true, Nat.sub_self, conR, asG, asI, asBo, asStr, asIs, asBs, asE4, asI2, asI3, asLL, asLLL, Th_int, Th_Sint, Th_bool, Th_implBases, Th_implDealing, Th_implEqualLog, Th_implGroup, Th_lawsEqualLog, Th_lawsGroup, G_ZeroDealingS, c_sGroup, c_l1In, c_gExps, c_nMod, c_yMul, c_sDeal, hL])
    | ((with_reducible refine ens_step ?_ (fun hE => ?_)); · ((repeat' with_reducible apply And.intro) <;> first | with_reducible assumption | omega | exact True.intro | with_reducible rfl | (show ByteArray.size _ ≤ _; decide) | (simp; done) | (simp; omega) | rfl))
    | ((with_reducible refine And.intro ?_ ?_); · ((repeat' with_reducible apply And.intro) <;> first | with_reducible assumption | omega | exact True.intro | with_reducible rfl | (show ByteArray.size _ ≤ _; decide) | (simp; done) | (simp; omega) | rfl))
    | ((with_reducible refine Fork.intro (fun h' => ?_) (fun h' => ?_)) <;> (try simp only [Bool.not_eq_true', Bool.not_eq_false', bne] at h') <;> (replace hL := And.intro h' hL) <;> (try simp only [decide_eq_true_eq, decide_eq_false_iff_not, beq_iff_eq, beq_eq_false_iff_ne, ne_eq] at h') <;> (try (have hsh := shB_of h'; obtain ⟨hgd, hq7⟩ := hsh; have hG := M.goodB_of hgd; have hq2 := hG.q2; have hqp := hG.qp; have hp3 := hG.p3; have hpM := hG.pM)) <;> (try (have hin := inr_t h')) <;> (try (have hex := expsB_all12' h'; have hni := emod_bd (n := -i) (q := q) (by omega); have hgb2 : ∀ x ∈ [(-i) % q, 1], 0 ≤ x ∧ x < q := (by intro x hx; simp only [List.mem_cons, List.not_mem_nil, or_false] at hx; rcases hx with rfl | rfl <;> omega); have hmp := mulP_ok (f := cs) (g := [(-i) % q, 1]) hq2; obtain ⟨hml, hmb⟩ := hmp; simp only [List.length_cons, List.length_nil] at hml; replace hL := And.intro hml hL)))
    | (with_reducible refine AWp.skipS ?_)
    | ((with_reducible refine AWp.condT rfl ?_))
    | ((with_reducible refine AWp.condF rfl ?_))
    | (with_reducible refine AWp.condB rfl ?_)
    | ((with_reducible refine AWp.ret_id ?_); refine AWp.sub (Sub.nilBox 8 0 100000 3 .int rfl rfl rfl) ?_)
    | ((with_reducible refine AWp.ret_id ?_); refine AWp.sub (Sub.nilBox 8 1 100001 3 .int rfl rfl rfl) ?_)
    | (with_reducible refine AWp.ret ?_)
    | (with_reducible refine seqQ_n ?_)
    | (with_reducible refine seqQ_ret ?_)
    | (with_reducible refine blkQ_ret ?_)
    | (with_reducible refine blkQ_n ?_)
    | (with_reducible refine seqQ_exit ?_)
    | (with_reducible refine blkQ_exit ?_)
    | (with_reducible refine blkQ_other (by decide) ?_)
    | (with_reducible refine AWp.block ?_)
    | (with_reducible refine AWp.exit ?_)
    | (with_reducible refine AWp.skip ?_)
    | ((with_reducible refine EndsAt_id ?_); (try subst_vars); (try simp only [PZd, okZd, dealC_len, dealS_len, hL, List.length_cons, List.length_nil, Nat.zero_add, Nat.reduceAdd, Bool.and_true, Bool.and_false, Bool.true_and, Bool.false_and, Bool.and_self, ↓reduceIte, Bool.false_eq_true, Bool.not_true, Bool.not_false, bne]); refine EndsAt.done [_, _] (by first | exact .inr rfl | exact .inl rfl) rfl rfl ?_ ?_ <;> first | decide | (repeat' (first | rfl | apply And.intro | trivial)))
    | (with_reducible refine AWp.seq ?_)⟩
end Go.Proofs.Ytjapjmhifoeogaa
