import Derived.Test.YtgnnmifpfgpllaaGreatZD20
/- Products of polynomials, zero dealings, bad shares. -/
set_option linter.all false
set_option linter.unusedVariables false
set_option linter.unusedSimpArgs false
namespace Go.Proofs.YtgnnmifpfgpllaaGreat
open Go.RowKit
/-- products of polynomials -/
def mulIn (q a : Int) (i : Nat) : List Int → Nat → List Int → List Int
  | [], _, out => out
  | b :: l, k, out => mulIn q a i l (k + 1) (out.set (i + k) ((out.getD (i + k) 0 + a * b) % q))
def mulOut (q : Int) (g : List Int) : List Int → Nat → List Int → List Int
  | [], _, out => out
  | a :: l, i, out => mulOut q g l (i + 1) (mulIn q a i g 0 out)
def mulP (q : Int) (f g : List Int) : List Int := mulOut q g f 0 (List.replicate (f.length + g.length - 1) 0)
theorem mulIn_at {q a : Int} {i k : Nat} {g out : List Int} (h : k < g.length) : mulIn q a i (g.drop k) k out = mulIn q a i (g.drop (k + 1)) (k + 1) (out.set (i + k) ((out.getD (i + k) 0 + a * g.getD k 0) % q)) := by
  rw [drop_at 0 h]; rfl
theorem mulOut_at {q : Int} {i : Nat} {f g out : List Int} (h : i < f.length) : mulOut q g (f.drop i) i out = mulOut q g (f.drop (i + 1)) (i + 1) (mulIn q (f.getD i 0) i g 0 out) := by
  rw [drop_at 0 h]; rfl
theorem mulIn_end {q a : Int} {i k : Nat} {g out : List Int} : mulIn q a i (g.drop g.length) k out = out := by simp [mulIn]
theorem mulOut_end {q : Int} {i : Nat} {f g out : List Int} : mulOut q g (f.drop f.length) i out = out := by simp [mulOut]
theorem set_bd {q v : Int} {out : List Int} {j : Nat} (h : ∀ x ∈ out, 0 ≤ x ∧ x < q) (hv : 0 ≤ v ∧ v < q) : ∀ x ∈ out.set j v, 0 ≤ x ∧ x < q := fun x hx => by
  rcases List.mem_or_eq_of_mem_set hx with hx | rfl
  · exact h x hx
  · exact hv
theorem mulIn_ok {q a : Int} (hq : 2 ≤ q) {i : Nat} : ∀ (g : List Int) (k : Nat) (out : List Int), (∀ x ∈ out, 0 ≤ x ∧ x < q) → (mulIn q a i g k out).length = out.length ∧ ∀ x ∈ mulIn q a i g k out, 0 ≤ x ∧ x < q
  | [], _, out, h => ⟨rfl, h⟩
  | b :: l, k, out, h => by
    have := mulIn_ok (a := a) hq (i := i) l (k + 1) _ (set_bd (j := i + k) h (emod_bd (n := out.getD (i + k) 0 + a * b) (q := q) (by omega)))
    rw [List.length_set] at this
    exact this
theorem mulOut_ok {q : Int} (hq : 2 ≤ q) {g : List Int} : ∀ (f : List Int) (i : Nat) (out : List Int), (∀ x ∈ out, 0 ≤ x ∧ x < q) → (mulOut q g f i out).length = out.length ∧ ∀ x ∈ mulOut q g f i out, 0 ≤ x ∧ x < q
  | [], _, out, h => ⟨rfl, h⟩
  | a :: l, i, out, h => by
    have h1 := mulIn_ok (a := a) hq (i := i) g 0 out h
    have := mulOut_ok hq (g := g) l (i + 1) _ h1.2
    rw [h1.1] at this
    exact this
theorem repl_bd {q : Int} (hq : 2 ≤ q) {n : Nat} : ∀ x ∈ List.replicate n (0 : Int), 0 ≤ x ∧ x < q := fun x hx => by rw [(List.mem_replicate.1 hx).2]; omega
theorem mulP_ok {q : Int} (hq : 2 ≤ q) {f g : List Int} : (mulP q f g).length = f.length + g.length - 1 ∧ ∀ x ∈ mulP q f g, 0 ≤ x ∧ x < q := by
  have := mulOut_ok hq (g := g) f 0 _ (repl_bd (n := f.length + g.length - 1) hq)
  rw [List.length_replicate] at this
  exact this
theorem add_mod_r {a b q : Int} : (a + b % q) % q = (a + b) % q := by rw [Int.add_comm, Int.emod_add_emod, Int.add_comm]
noncomputable def c_mulPolys : Con0 := conF [.int, (.list .int), (.list .int)] fun (⟨q, f, g, _⟩ : Int × (List Int) × (List Int) × Unit) => ((2 ≤ q ∧ q ≤ 2000000000) ∧ (∀ x ∈ f, 0 ≤ x ∧ x < q) ∧ (∀ x ∈ g, 0 ≤ x ∧ x < q) ∧ (1 ≤ f.length ∧ f.length ≤ 100) ∧ (1 ≤ g.length ∧ g.length ≤ 100), .own 0 (f.length + g.length - 1), [.row 3 .int (mulP q f g)])
noncomputable def G_mulPolys : List (FuncId × Con) := []
theorem G_mulPolys_ok : ∀ f C, (f, C) ∈ G_mulPolys → C.ok Tryz.prog f := by
  intro f C h
  simp only [G_mulPolys, List.mem_cons, Prod.mk.injEq, List.not_mem_nil, or_false] at h
set_option maxRecDepth 100000 in
set_option maxHeartbeats 4000000 in
theorem ok_mulPolys : (mk c_mulPolys).ok Tryz.prog 132 := okF (Θ := Th) (N := 63) (rs := [.tmp 6]) Th_ok Tryz.func132 (by kernel_rfl) rfl Tryz.results132 (by decide) (by kernel_rfl) fun (⟨q, f, g, _⟩ : Int × (List Int) × (List Int) × Unit) => ⟨rfl, rfl, Nat.le_of_ble_eq_true rfl, fun hc w0 => by
  have hL := dmy_eq
  try dsimp only at hc
  try dsimp only
  obtain ⟨⟨hq2, hqM⟩, hf, hg, ⟨hf1, hf2⟩, ⟨hg1, hg2⟩⟩ := hc
  have ht : ((f.length : Int) + g.length - 1).toNat = f.length + g.length - 1 := by omega
  replace hL := And.intro ht hL
  have hres := (mulP_ok hq2 (f := f) (g := g)).1
  refine AWp.body rfl ?_
  repeat' first
    | ((with_reducible refine hK _ _ ?_); clear hK K)
    | ((with_reducible refine hK _ _ (by kernel_rfl) ?_); clear hK K)
    | ((with_reducible refine AWp.pS Th_ok G_mulPolys_ok [0, 1, 2, 6, 7, 8, 9, 10, 11, 19, 27, 28, 29, 30, 34, 35, 36, 37] (by decide) ?_); intro K hK)
    | ((with_reducible refine AWp.dS (by kernel_rfl) Th_ok G_mulPolys_ok [0, 1, 2, 6, 7, 8, 9, 10, 11, 19, 27, 28, 29, 30, 34, 35, 36, 37] ?_); intro K hK)
    | ((with_reducible refine AWp.pE Th_ok G_mulPolys_ok [0, 1, 2, 6, 7, 8, 9, 10, 11, 19, 27, 28, 29, 30, 34, 35, 36, 37] (by decide) ?_); intro K hK)
    | ((with_reducible refine AWp.dE (by kernel_rfl) Th_ok G_mulPolys_ok [0, 1, 2, 6, 7, 8, 9, 10, 11, 19, 27, 28, 29, 30, 34, 35, 36, 37] ?_); intro K hK)
    | ((first | with_reducible refine runF_id ?_ | with_reducible refine stepF_id ?_); simp (maxSteps := 2000000) only [runF, stepF, forkOf, gdOf, List.toList_toArray, stepOp, look, opAV, pureOp, callOp, memOp, AS.ev, AS.get, AS.obj, initS, initFrom, AV.cells, AS.upd, Option.bind_some, Option.bind_none, Option.map_some, Option.map_none, Option.getD_none, Option.getD_some, ↓reduceIte, Nat.reduceEqDiff, Nat.reduceAdd, Nat.reduceMul, Nat.reduceSub, List.nil_append, List.append_nil, List.cons_append, List.map_cons, List.map_nil, true_and, and_true, AS.fin, pick, dedup, List.mem_cons, List.not_mem_nil, or_false, false_or, List.size_toArray, List.length_cons, List.length_nil, loadAV, List.drop_zero, List.drop_succ_cons, List.take_zero, List.take_succ_cons, List.getElem?_cons_zero, List.getElem?_cons_succ, List.head?_cons, List.mapM_cons, List.mapM_nil, Option.bind_eq_bind, Option.pure_def, deeps3, deep3, deep2, deep1, deeps, deeps2, mixInts, AV.plain, mk, mkD, DCon.lift, DCon.runC, ren3, ren2, ren1, numb, List.zipIdx_nil, List.zipIdx_cons, List.all_nil, List.all_cons, Nat.reduceLeDiff, List.range, List.range.loop, Ty.sz, beq_self_eq_true, Bool.and_self, and_self, Ty.ofC, AO.isDead, Nat.reduceLT, if_true, Nat.zero_add, Nat.add_zero, ite_true, Nat.le_refl, Bool.false_eq_true, reduceCtorEq, if_false, ite_false, binAV, AO.ren, AV.isCell, fillAV, List.set_cons_zero, List.set_cons_succ, Ty.cells, Ty.flat, Ty.dflt, List.getD_cons_zero, List.getD_cons_succ, Int.reduceToNat, Int.reduceSub, Int.reduceAdd, Int.reduceMul, Int.reduceNeg, forall_eq_or_imp, forall_eq, gdL, id_eq, Nat.lt_irrefl, srcOf, List.replicate_succ, List.replicate_zero, dite_true, List.isEmpty_cons, Option.isSome_some, List.length_append, List.length_singleton, bne_self_eq_false, Bool.not_true, Bool.not_false, conF, asArgs, asArg, asTy, asI1, asB1, asS1, asL1, canons, canon, Fork.true_, Fork.false_, bne, Bool.not_not, List.length_map, pickO, AS.over, TI.bl, bne_iff_ne, AS.over2, without, keys, List.mem_singleton, memOp2, memOp3, absorb, abInt, abBool, abStr, abList, gones, Int.toNat_natCast, List.take_length, subE, List.nodup_cons, List.nodup_nil, not_false_eq_true, Nat.sub_self, conR, asG, asI, asBo, asStr, asIs, asBs, asE4, asI2, asI3, asLL, asLLL, Th_int, Th_Sint, Th_implGroup, Th_lawsGroup, Th_string, G_mulPolys, hL])
    | ((with_reducible refine ens_step ?_ (fun hE => ?_)); · ((repeat' with_reducible apply And.intro) <;> first | with_reducible assumption | omega | exact True.intro | with_reducible rfl | (show ByteArray.size _ ≤ _; decide) | (simp; done) | (simp; omega) | rfl))
    | ((with_reducible refine And.intro ?_ ?_); · ((repeat' with_reducible apply And.intro) <;> first | with_reducible assumption | omega | exact True.intro | with_reducible rfl | (show ByteArray.size _ ≤ _; decide) | (simp; done) | (simp; omega) | rfl))
    | ((with_reducible refine Fork.intro (fun h' => ?_) (fun h' => ?_)) <;> (try simp only [Bool.not_eq_true', Bool.not_eq_false', bne] at h') <;> (replace hL := And.intro h' hL) <;> (try simp only [decide_eq_true_eq, decide_eq_false_iff_not, beq_iff_eq, beq_eq_false_iff_ne, ne_eq] at h') <;> (try (exfalso; omega)) <;> (try (have hij : ((i : Int) + (k : Int)).toNat = i + k := (by omega); have hak := getD_bd' hf (k := i) (by omega); have hbk := getD_bd' hg (k := k) (by omega); have hok := getD_bd' hy4 (k := i + k) (by omega); have hmb := mul_bd (a := f.getD i 0) (b := g.getD k 0) (by omega) (by omega); have hrb := emod_bd (n := f.getD i 0 * g.getD k 0) (q := q) (by omega); have hml : (out2.getD (i + k) 0 + f.getD i 0 * g.getD k 0 % q) % q = (out2.getD (i + k) 0 + f.getD i 0 * g.getD k 0) % q := add_mod_r; have hvb := emod_bd (n := out2.getD (i + k) 0 + f.getD i 0 * g.getD k 0) (q := q) (by omega); rw [mulIn_at (by omega)] at hy2; replace hL := And.intro hml (And.intro hij hL))) <;> (try (have hke : k = g.length := (by omega); subst hke; rw [mulIn_end] at hy2; subst hy2)) <;> (try (have hie : i = f.length := (by omega); subst hie; rw [mulOut_end] at hz2; replace hz2 : out = mulP q f g := hz2; subst hz2)) <;> (try (rw [mulOut_at (by omega)] at hz2; have hmi := (mulIn_ok (a := f.getD i 0) (i := i) hq2 g 0 out hz4).2; have hmil := (mulIn_ok (a := f.getD i 0) (i := i) hq2 g 0 out hz4).1)))
    | (with_reducible refine AWp.skipS ?_)
    | ((with_reducible refine AWp.condT rfl ?_))
    | ((with_reducible refine AWp.condF rfl ?_))
    | (with_reducible refine AWp.condB rfl ?_)
    | (with_reducible refine AWp.ret ?_)
    | (with_reducible refine seqQ_n ?_)
    | (with_reducible refine seqQ_ret ?_)
    | (with_reducible refine blkQ_ret ?_)
    | (with_reducible refine blkQ_n ?_)
    | (with_reducible refine seqQ_exit ?_)
    | (with_reducible refine blkQ_exit ?_)
    | (with_reducible refine blkQ_other (by decide) ?_)
    | (with_reducible refine AWp.block ?_)
    | (with_reducible refine AWp.exit ?_)
    | (with_reducible refine AWp.skip ?_)
    | ((with_reducible refine loop_id ?_); refine AWp.loopAt 5 rfl ?_; refine AWp.loopO [8, 9, 10, 11, 29, 30, 31, 32, 33, 34, 35, 36, 37, 38, 39, 40, 41, 42, 43, 44, 45, 46, 47, 48, 49, 50, 51, 52, 53, 54, 55, 56, 57, 58, 59, 60, 61] (fun z : Nat × List Int => [(29, .lit (.int .i64 (z.1 : Nat)))]) (fun z => [(120, .row 3 .int z.2)]) (fun z => z.1 ≤ f.length ∧ mulOut q g (f.drop z.1) z.1 z.2 = mulP q f g ∧ z.2.length = f.length + g.length - 1 ∧ ∀ x ∈ z.2, 0 ≤ x ∧ x < q) (fun z => f.length - z.1) (0, List.replicate (f.length + g.length - 1) 0) (by (try dsimp only); exact ⟨by omega, rfl, by simp, repl_bd hq2⟩) (by (refine Sub.auto (by first | exact frok0 | assumption) rfl rfl ?_ ?_ <;> (try simp only [subE, AS.over2, without, keys, look, List.cons_append, List.nil_append, List.append_nil, List.mem_cons, List.not_mem_nil, or_false, or_true, true_or, false_or, Nat.reduceEqDiff, ↓reduceIte, Option.some.injEq, AV.lit.injEq, Value.int.injEq, Value.bool.injEq, AV.own.injEq, AO.row.injEq, AO.box.injEq, List.cons.injEq, AV.agg.injEq, AV.sl.injEq, true_and, and_true, and_self, heq_eq_eq, List.length_nil, List.length_cons, List.map_nil, List.take_zero, Int.natCast_add, Int.cast_ofNat_Int, Int.natCast_zero, List.length_append, List.length_map, List.length_take, Nat.zero_add]) <;> (simp))) (fun z hz5 L5 hLoop5 => ?_); obtain ⟨i, out⟩ := z; (try dsimp only at hz5); obtain ⟨hz1, hz2, hz3, hz4⟩ := hz5)
    | ((with_reducible refine seqQ_f ?_); refine hLoop5 (i + 1, mulIn q (f.getD i 0) i g 0 out) _ (by (try dsimp only); exact ⟨by omega, hz2, by rw [hmil]; exact hz3, hmi⟩) (by (try dsimp only); omega) ?_; ((refine Sub.auto (by first | exact frok0 | assumption) rfl rfl ?_ ?_ <;> (try simp only [subE, AS.over2, without, keys, look, List.cons_append, List.nil_append, List.append_nil, List.mem_cons, List.not_mem_nil, or_false, or_true, true_or, false_or, Nat.reduceEqDiff, ↓reduceIte, Option.some.injEq, AV.lit.injEq, Value.int.injEq, Value.bool.injEq, AV.own.injEq, AO.row.injEq, AO.box.injEq, List.cons.injEq, AV.agg.injEq, AV.sl.injEq, true_and, and_true, and_self, heq_eq_eq, List.length_nil, List.length_cons, List.map_nil, List.take_zero, Int.natCast_add, Int.cast_ofNat_Int, Int.natCast_zero, List.length_append, List.length_map, List.length_take, Nat.zero_add]) <;> ((repeat' apply And.intro) <;> first | rfl | omega | (simp; done)))))
    | ((with_reducible refine loop_id ?_); refine AWp.loopAt 8 rfl ?_; refine AWp.loopO [10, 11, 36, 37, 38, 39, 40, 41, 42, 43, 44, 45, 46, 47, 48, 49, 50, 51, 52, 53, 54, 55, 56, 57, 58, 59, 60] (fun z : Nat × List Int => [(36, .lit (.int .i64 (z.1 : Nat)))]) (fun z => [(120, .row 3 .int z.2)]) (fun z => z.1 ≤ g.length ∧ mulIn q (f.getD i 0) i (g.drop z.1) z.1 z.2 = mulIn q (f.getD i 0) i g 0 out ∧ z.2.length = f.length + g.length - 1 ∧ ∀ x ∈ z.2, 0 ≤ x ∧ x < q) (fun z => g.length - z.1) (0, out) (by (try dsimp only); exact ⟨by omega, by simp, hz3, hz4⟩) (by (refine Sub.auto (by first | exact frok0 | assumption) rfl rfl ?_ ?_ <;> (try simp only [subE, AS.over2, without, keys, look, List.cons_append, List.nil_append, List.append_nil, List.mem_cons, List.not_mem_nil, or_false, or_true, true_or, false_or, Nat.reduceEqDiff, ↓reduceIte, Option.some.injEq, AV.lit.injEq, Value.int.injEq, Value.bool.injEq, AV.own.injEq, AO.row.injEq, AO.box.injEq, List.cons.injEq, AV.agg.injEq, AV.sl.injEq, true_and, and_true, and_self, heq_eq_eq, List.length_nil, List.length_cons, List.map_nil, List.take_zero, Int.natCast_add, Int.cast_ofNat_Int, Int.natCast_zero, List.length_append, List.length_map, List.length_take, Nat.zero_add]) <;> (simp))) (fun z hz8 L8 hLoop8 => ?_); obtain ⟨k, out2⟩ := z; (try dsimp only at hz8); obtain ⟨hy1, hy2, hy3, hy4⟩ := hz8)
    | ((with_reducible refine seqQ_f ?_); refine hLoop8 (k + 1, out2.set (i + k) ((out2.getD (i + k) 0 + f.getD i 0 * g.getD k 0) % q)) _ (by (try dsimp only); exact ⟨by omega, hy2, by rw [List.length_set]; exact hy3, set_bd hy4 hvb⟩) (by (try dsimp only); omega) ?_; ((refine Sub.auto (by first | exact frok0 | assumption) rfl rfl ?_ ?_ <;> (try simp only [subE, AS.over2, without, keys, look, List.cons_append, List.nil_append, List.append_nil, List.mem_cons, List.not_mem_nil, or_false, or_true, true_or, false_or, Nat.reduceEqDiff, ↓reduceIte, Option.some.injEq, AV.lit.injEq, Value.int.injEq, Value.bool.injEq, AV.own.injEq, AO.row.injEq, AO.box.injEq, List.cons.injEq, AV.agg.injEq, AV.sl.injEq, true_and, and_true, and_self, heq_eq_eq, List.length_nil, List.length_cons, List.map_nil, List.take_zero, Int.natCast_add, Int.cast_ofNat_Int, Int.natCast_zero, List.length_append, List.length_map, List.length_take, Nat.zero_add]) <;> ((repeat' apply And.intro) <;> first | rfl | omega | (simp; done)))))
    | ((with_reducible refine EndsAt_id ?_); (try subst_vars); refine EndsAt.done [_] (by first | exact .inr rfl | exact .inl rfl) rfl rfl ?_ ?_ <;> first | decide | (repeat' (first | rfl | apply And.intro | trivial)))
    | (with_reducible refine AWp.seq ?_)⟩
end Go.Proofs.YtgnnmifpfgpllaaGreat
