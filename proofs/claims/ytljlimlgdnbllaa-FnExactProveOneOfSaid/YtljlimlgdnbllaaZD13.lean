import Derived.Test.YtljlimlgdnbllaaZD12
import Derived.Test.YtljlimlgdnbllaaZD10
/- ProveOneOf of impl. -/
set_option linter.all false
set_option linter.unusedVariables false
set_option linter.unusedSimpArgs false
namespace Go.Proofs.Ytljlimlgdnbllaa
open Go.RowKit
def curN (ix : Int) (k : Nat) : Nat := if (k : Int) ≤ ix then 2 * k else 2 * k - 2
def oneC (ix : Int) (ks : List Int) (j : Nat) : Int := if ((j : Int) == ix) = true then 0 else ks.getD (curN ix j) 0
def oneZ (ix : Int) (ks : List Int) (j : Nat) : Int := if ((j : Int) == ix) = true then 0 else ks.getD (curN ix j + 1) 0
noncomputable def oneA (p q : Int) (xs : List (Int × Int × Int × Int)) (ix kk : Int) (ks : List Int) (j : Nat) : List Int := if ((j : Int) == ix) = true then [M.gpw p q (xs.getD j (0, 0, 0, 0)).1 kk, M.gpw p q (xs.getD j (0, 0, 0, 0)).2.2.1 kk] else [simC p q (xs.getD j (0, 0, 0, 0)).1 (xs.getD j (0, 0, 0, 0)).2.1 (ks.getD (curN ix j) 0) (ks.getD (curN ix j + 1) 0), simC p q (xs.getD j (0, 0, 0, 0)).2.2.1 (xs.getD j (0, 0, 0, 0)).2.2.2 (ks.getD (curN ix j) 0) (ks.getD (curN ix j + 1) 0)]
noncomputable def oneAs (p q : Int) (xs : List (Int × Int × Int × Int)) (ix kk : Int) (ks : List Int) (n : Nat) : List Int := (List.range n).flatMap (oneA p q xs ix kk ks)
def oneCs (ix : Int) (ks : List Int) (n : Nat) : List Int := (List.range n).map (oneC ix ks)
def oneZs (ix : Int) (ks : List Int) (n : Nat) : List Int := (List.range n).map (oneZ ix ks)
section
variable {p q ix kk : Int} {xs : List (Int × Int × Int × Int)} {ks : List Int} {k j n : Nat}
theorem oneA_eq (h : ((j : Int) == ix) = true) : oneA p q xs ix kk ks j = [M.gpw p q (xs.getD j (0, 0, 0, 0)).1 kk, M.gpw p q (xs.getD j (0, 0, 0, 0)).2.2.1 kk] := if_pos h
theorem oneA_ne (h : ((j : Int) == ix) = false) : oneA p q xs ix kk ks j = [simC p q (xs.getD j (0, 0, 0, 0)).1 (xs.getD j (0, 0, 0, 0)).2.1 (ks.getD (curN ix j) 0) (ks.getD (curN ix j + 1) 0), simC p q (xs.getD j (0, 0, 0, 0)).2.2.1 (xs.getD j (0, 0, 0, 0)).2.2.2 (ks.getD (curN ix j) 0) (ks.getD (curN ix j + 1) 0)] := if_neg (by rw [h]; decide)
theorem oneA_ne' (hp : 3 ≤ p) (h : ((j : Int) == ix) = false) : oneA p q xs ix kk ks j = [M.mulL p [M.gpw p q (xs.getD j (0, 0, 0, 0)).1 (ks.getD (curN ix j + 1) 0), M.gpw p q (xs.getD j (0, 0, 0, 0)).2.1 (-ks.getD (curN ix j) 0)], M.mulL p [M.gpw p q (xs.getD j (0, 0, 0, 0)).2.2.1 (ks.getD (curN ix j + 1) 0), M.gpw p q (xs.getD j (0, 0, 0, 0)).2.2.2 (-ks.getD (curN ix j) 0)]] := by
  rw [oneA_ne h, M.mulL_two (gpw_bd hp), M.mulL_two (gpw_bd hp)]; rfl
theorem oneC_eq (h : ((j : Int) == ix) = true) : oneC ix ks j = 0 := if_pos h
theorem oneC_ne (h : ((j : Int) == ix) = false) : oneC ix ks j = ks.getD (curN ix j) 0 := if_neg (by rw [h]; decide)
theorem oneZ_eq (h : ((j : Int) == ix) = true) : oneZ ix ks j = 0 := if_pos h
theorem oneZ_ne (h : ((j : Int) == ix) = false) : oneZ ix ks j = ks.getD (curN ix j + 1) 0 := if_neg (by rw [h]; decide)
theorem curN_eq (h : (k : Int) = ix) : curN ix (k + 1) = curN ix k := by unfold curN; rw [if_neg (by omega), if_pos (by omega)]; omega
theorem curN_ne (h0 : 0 ≤ ix) (h : ¬ (k : Int) = ix) : curN ix (k + 1) = curN ix k + 2 := by unfold curN; split <;> split <;> omega
theorem curN_bd (h0 : 0 ≤ ix) (hx : ix < n) (h : ¬ (k : Int) = ix) (hk : k < n) : curN ix k + 1 < 2 * n - 1 := by unfold curN; split <;> omega
theorem As_step {A : List Int} (h : oneA p q xs ix kk ks k = A) : oneAs p q xs ix kk ks k ++ A = oneAs p q xs ix kk ks (k + 1) := by
  simp [oneAs, List.range_succ, h]
theorem Cs_step {c : Int} (h : oneC ix ks k = c) : oneCs ix ks k ++ [c] = oneCs ix ks (k + 1) := by simp [oneCs, List.range_succ, h]
theorem Zs_step {c : Int} (h : oneZ ix ks k = c) : oneZs ix ks k ++ [c] = oneZs ix ks (k + 1) := by simp [oneZs, List.range_succ, h]
theorem As_len : (oneAs p q xs ix kk ks k).length = 2 * k := by
  induction k with
  | zero => rfl
  | succ k ih =>
    rw [← As_step rfl, List.length_append, ih]
    have : (oneA p q xs ix kk ks k).length = 2 := by unfold oneA; split <;> rfl
    omega
theorem Cs_len : (oneCs ix ks k).length = k := by simp [oneCs]
theorem Zs_len : (oneZs ix ks k).length = k := by simp [oneZs]
theorem As_bd (hp : 3 ≤ p) : ∀ x ∈ oneAs p q xs ix kk ks n, 0 ≤ x ∧ x < p := by
  intro x hx
  obtain ⟨j, _, hx⟩ := List.mem_flatMap.1 hx
  unfold oneA at hx
  split at hx
  · simp only [List.mem_cons, List.not_mem_nil, or_false] at hx
    rcases hx with rfl | rfl <;> exact gpw_bd hp
  · simp only [List.mem_cons, List.not_mem_nil, or_false] at hx
    rcases hx with rfl | rfl <;> exact ⟨Int.emod_nonneg _ (by omega), Int.emod_lt_of_pos _ (by omega)⟩
theorem Cs_bd (h0 : 0 ≤ ix) (hx : ix < n) (hl : ks.length = 2 * n - 1) (hq : 2 ≤ q) (hk : ∀ x ∈ ks, 0 ≤ x ∧ x < q) : ∀ x ∈ oneCs ix ks n, 0 ≤ x ∧ x < q := by
  intro x hx'
  obtain ⟨j, hj, rfl⟩ := List.mem_map.1 hx'
  rw [List.mem_range] at hj
  unfold oneC
  split
  · omega
  · rename_i h
    have := curN_bd h0 hx (k := j) (by simpa using h) hj
    exact getD_bd hk (by omega)
theorem set_getD {xs : List Int} {i : Nat} {v : Int} (h : i < xs.length) : (xs.set i v).getD i 0 = v := by
  simp [List.getD_eq_getElem?_getD, h]
theorem drop_getD {xs : List Int} {i j : Nat} : (xs.drop i).getD j 0 = xs.getD (i + j) 0 := by simp [List.getD_eq_getElem?_getD]
theorem sum_step0 (hq : 2 ≤ q) (h : oneC ix ks k = 0) : sumL q (oneCs ix ks (k + 1)) = sumL q (oneCs ix ks k) := by
  rw [← Cs_step h, sumL_snoc, Int.add_zero]
  exact Int.emod_eq_of_lt (sumL_lt (by omega) _).1 (sumL_lt (by omega) _).2
theorem sum_stepC {c : Int} (h : oneC ix ks k = c) : (sumL q (oneCs ix ks k) + c) % q = sumL q (oneCs ix ks (k + 1)) := by rw [← Cs_step h, sumL_snoc]
end
noncomputable def oneE (p q g : Int) (s : ByteArray) (xs : List (Int × Int × Int × Int)) (ix : Int) (ks : List Int) : Int := (oneChal p q g s xs (oneAs p q xs ix (ks.getD ((ks.length : Int) - 1).toNat 0) ks xs.length) - sumL q (oneCs ix ks xs.length)) % q
noncomputable def prOne (p q g : Int) (s : ByteArray) (xs : List (Int × Int × Int × Int)) (ix x : Int) (ks : List Int) : List Int × List Int × List Int :=
  (oneAs p q xs ix (ks.getD ((ks.length : Int) - 1).toNat 0) ks xs.length, (oneCs ix ks xs.length).set ix.toNat (oneE p q g s xs ix ks), (oneZs ix ks xs.length).set ix.toNat ((ks.getD ((ks.length : Int) - 1).toNat 0 + oneE p q g s xs ix ks * x) % q))
noncomputable def okOne (p q g : Int) (s : ByteArray) (xs : List (Int × Int × Int × Int)) (ix x : Int) (ks : List Int) : Bool := M.goodB p q g && decide ((s.size : Int) ≤ 40) && okSt p q xs && inr ix 0 ((xs.length : Int) - 1) && inr x 0 (q - 1) && ((ks.length : Int) == 2 * xs.length - 1) && expsB q ks && truB p q (xs.getD ix.toNat (0, 0, 0, 0)).1 (xs.getD ix.toNat (0, 0, 0, 0)).2.1 (xs.getD ix.toNat (0, 0, 0, 0)).2.2.1 (xs.getD ix.toNat (0, 0, 0, 0)).2.2.2 x
noncomputable def POne (p q g : Int) (s : ByteArray) (xs : List (Int × Int × Int × Int)) (ix x : Int) (ks : List Int) : List Int × List Int × List Int := if okOne p q g s xs ix x ks = true then prOne p q g s xs ix x ks else ([], [], [])
theorem oneE_bd {p q g : Int} {s : ByteArray} {xs : List (Int × Int × Int × Int)} {ix : Int} {ks : List Int} (hq : 2 ≤ q) : 0 ≤ oneE p q g s xs ix ks ∧ oneE p q g s xs ix ks < q := ⟨Int.emod_nonneg _ (by omega), Int.emod_lt_of_pos _ (by omega)⟩
noncomputable def c_ProveOneOfI : Con0 := conF [(.pair .int (.pair .int .int)), .str, (.list (.pair .int (.pair .int (.pair .int .int)))), .int, .int, (.list .int)] fun (⟨⟨p, q, g⟩, s, xs, ix, x, ks, _⟩ : (Int × Int × Int) × ByteArray × (List (Int × Int × Int × Int)) × Int × Int × (List Int) × Unit) => (xs.length ≤ 9223372036854775806, .tup [.agg [.own 0 (POne p q g s xs ix x ks).1.length, .own 1 (POne p q g s xs ix x ks).2.1.length, .own 2 (POne p q g s xs ix x ks).2.2.length], .lit (.bool (okOne p q g s xs ix x ks))], [.row 3 .int (POne p q g s xs ix x ks).1, .row 3 .int (POne p q g s xs ix x ks).2.1, .row 3 .int (POne p q g s xs ix x ks).2.2])
noncomputable def G_ProveOneOfI : List (FuncId × Con) := [(101, mk c_isValidGroup), (102, mk c_isLabel), (103, mk c_areStatements), (71, mk c_within), (73, mk c_isExp), (79, mk c_areExps), (108, mk c_isTrue), (77, mk c_pow), (109, mk c_simulated), (110, mk c_oneOfChallenge), (93, mk c_sum), (85, mk c_exp)]
theorem G_ProveOneOfI_ok : ∀ f C, (f, C) ∈ G_ProveOneOfI → C.ok Try.prog f := by
  intro f C h
  simp only [G_ProveOneOfI, List.mem_cons, Prod.mk.injEq, List.not_mem_nil, or_false] at h
  rcases h with ⟨rfl, rfl⟩ | ⟨rfl, rfl⟩ | ⟨rfl, rfl⟩ | ⟨rfl, rfl⟩ | ⟨rfl, rfl⟩ | ⟨rfl, rfl⟩ | ⟨rfl, rfl⟩ | ⟨rfl, rfl⟩ | ⟨rfl, rfl⟩ | ⟨rfl, rfl⟩ | ⟨rfl, rfl⟩ | ⟨rfl, rfl⟩
  · exact ok_isValidGroup
  · exact ok_isLabel
  · exact ok_areStatements
  · exact ok_within
  · exact ok_isExp
  · exact ok_areExps
  · exact ok_isTrue
  · exact ok_pow
  · exact ok_simulated
  · exact ok_oneOfChallenge
  · exact ok_sum
  · exact ok_exp
set_option maxRecDepth 100000 in
set_option maxHeartbeats 8000000 in
theorem ok_ProveOneOfI : (mk c_ProveOneOfI).ok Try.prog 49 := okF (Θ := Th) (N := 186) (rs := [.cell 12 38, .tmp 13]) Th_ok Try.func49 (by kernel_rfl) rfl Try.results49 (by decide) (by kernel_rfl) fun (⟨⟨p, q, g⟩, s, xs, ix, x, ks, _⟩ : (Int × Int × Int) × ByteArray × (List (Int × Int × Int × Int)) × Int × Int × (List Int) × Unit) => ⟨rfl, rfl, Nat.le_of_ble_eq_true rfl, fun hc w0 => by
  have hL := dmy_eq
  try dsimp only at hc
  try dsimp only
  have hrl0 := hc
  refine AWp.body rfl ?_
  repeat' first
    | ((with_reducible refine hK _ _ ?_); clear hK K)
    | ((with_reducible refine hK _ _ (by kernel_rfl) ?_); clear hK K)
    | ((with_reducible refine AWp.pS Th_ok G_ProveOneOfI_ok [0, 1, 2, 3, 4, 5, 6, 12, 13, 14, 15, 16, 17, 18, 19, 20, 21, 22, 23, 24, 77, 86, 87, 88, 89, 95, 155] (by decide) ?_); intro K hK)
    | ((with_reducible refine AWp.dS (by kernel_rfl) Th_ok G_ProveOneOfI_ok [0, 1, 2, 3, 4, 5, 6, 12, 13, 14, 15, 16, 17, 18, 19, 20, 21, 22, 23, 24, 77, 86, 87, 88, 89, 95, 155] ?_); intro K hK)
    | ((with_reducible refine AWp.pE Th_ok G_ProveOneOfI_ok [0, 1, 2, 3, 4, 5, 6, 12, 13, 14, 15, 16, 17, 18, 19, 20, 21, 22, 23, 24, 77, 86, 87, 88, 89, 95, 155] (by decide) ?_); intro K hK)
    | ((with_reducible refine AWp.dE (by kernel_rfl) Th_ok G_ProveOneOfI_ok [0, 1, 2, 3, 4, 5, 6, 12, 13, 14, 15, 16, 17, 18, 19, 20, 21, 22, 23, 24, 77, 86, 87, 88, 89, 95, 155] ?_); intro K hK)
    | ((first | with_reducible refine runF_id ?_ | with_reducible refine stepF_id ?_); simp (maxSteps := 2000000) only [runF, stepF, forkOf, gdOf, List.toList_toArray, stepOp, look, opAV, pureOp, callOp, memOp, AS.ev, AS.get, AS.obj, initS, initFrom, AV.cells, AS.upd, Option.bind_some, Option.bind_none, Option.map_some, Option.map_none, Option.getD_none, Option.getD_some, ↓reduceIte, Nat.reduceEqDiff, Nat.reduceAdd, Nat.reduceMul, Nat.reduceSub, List.nil_append, List.append_nil, List.cons_append, List.map_cons, List.map_nil, true_and, and_true, AS.fin, pick, dedup, List.mem_cons, List.not_mem_nil, or_false, false_or, List.size_toArray, List.length_cons, List.length_nil, loadAV, List.drop_zero, List.drop_succ_cons, List.take_zero, List.take_succ_cons, List.getElem?_cons_zero, List.getElem?_cons_succ, List.head?_cons, List.mapM_cons, List.mapM_nil, Option.bind_eq_bind, Option.pure_def, deeps3, deep3, deep2, deep1, deeps, deeps2, mixInts, AV.plain, mk, mkD, DCon.lift, DCon.runC, ren3, ren2, ren1, numb, List.zipIdx_nil, List.zipIdx_cons, List.all_nil, List.all_cons, Nat.reduceLeDiff, List.range, List.range.loop, Ty.sz, beq_self_eq_true, Bool.and_self, and_self, Ty.ofC, AO.isDead, Nat.reduceLT, if_true, Nat.zero_add, Nat.add_zero, ite_true, Nat.le_refl, Bool.false_eq_true, reduceCtorEq, if_false, ite_false, binAV, AO.ren, AV.isCell, fillAV, List.set_cons_zero, List.set_cons_succ, Ty.cells, Ty.flat, Ty.dflt, List.getD_cons_zero, List.getD_cons_succ, Int.reduceToNat, Int.reduceSub, Int.reduceAdd, Int.reduceMul, Int.reduceNeg, forall_eq_or_imp, forall_eq, gdL, id_eq, Nat.lt_irrefl, srcOf, List.replicate_succ, List.replicate_zero, dite_true, List.isEmpty_cons, Option.isSome_some, List.length_append, List.length_singleton, bne_self_eq_false, Bool.not_true, Bool.not_false, conF, asArgs, asArg, asTy, asI1, asB1, asS1, asL1, canons, canon, Fork.true_, Fork.false_, bne, Bool.not_not, List.length_map, pickO, AS.over, TI.bl, bne_iff_ne, AS.over2, without, keys, List.mem_singleton, memOp2, memOp3, absorb, abInt, abBool, abStr, abList, gones, Int.toNat_natCast, List.take_length, subE, List.nodup_cons, List.nodup_nil, not_false_eq_true, Nat.sub_self, conR, asG, asI, asBo, asStr, asIs, asBs, asE4, asI2, asI3, asLL, asLLL, Th_int, Th_bool, Th_string, Th_Sint, Th_implGroup, Th_implProof, Th_implEqualLog, Th_implSEqualLog, G_ProveOneOfI, c_isValidGroup, c_isLabel, c_areStatements, c_within, c_isExp, c_areExps, c_isTrue, c_pow, c_simulated, c_oneOfChallenge, c_sum, c_exp, As_len, Cs_len, Zs_len, List.length_set, Int.toNat_natCast_add_one, expsB1, hL])
    | ((with_reducible refine ens_step ?_ (fun hE => ?_)); · ((repeat' with_reducible apply And.intro) <;> first | with_reducible assumption | omega | exact True.intro | with_reducible rfl | (show ByteArray.size _ ≤ _; decide) | (simp; done) | (simp; omega) | rfl))
    | ((with_reducible refine And.intro ?_ ?_); · ((repeat' with_reducible apply And.intro) <;> first | with_reducible assumption | omega | exact True.intro | with_reducible rfl | (show ByteArray.size _ ≤ _; decide) | (simp; done) | (simp; omega) | rfl))
    | ((with_reducible refine Fork.intro (fun h' => ?_) (fun h' => ?_)) <;> (try simp only [Bool.not_eq_true', Bool.not_eq_false', bne] at h') <;> (replace hL := And.intro h' hL) <;> (try simp only [decide_eq_true_eq, decide_eq_false_iff_not, beq_iff_eq, beq_eq_false_iff_ne, ne_eq] at h') <;> (try (have hG := M.goodB_of h'; have hq2 := hG.q2; have hqp := hG.qp; have hp3 := hG.p3; have hpM := hG.pM)) <;> (try (have hS := okSt_use h'; have hxl := hS.len)) <;> (try (have hin := inr_t h')) <;> (try (have hks := expsB_all12 (xs := ks) h'; have hst0 := hS.at (k := ix.toNat) (by omega); obtain ⟨hs01, hs02, hs03, hs04⟩ := hst0; have hkk := getD_bd hks (k := ((ks.length : Int) - 1).toNat) (by omega))) <;> (try (have hA := oneA_eq (p := p) (q := q) (xs := xs) (kk := (ks.getD ((ks.length : Int) - 1).toNat 0)) (ks := ks) hL.1; have hC := oneC_eq (ks := ks) hL.1; have hZ := oneZ_eq (ks := ks) hL.1; have hcs := curN_eq h'; have hst := hS.at (k := k) (by omega); obtain ⟨hst1, hst2, hst3, hst4⟩ := hst)) <;> (try (have hA := oneA_ne (p := p) (q := q) (xs := xs) (kk := (ks.getD ((ks.length : Int) - 1).toNat 0)) (ks := ks) hL.1; have hC := oneC_ne (ks := ks) hL.1; have hZ := oneZ_ne (ks := ks) hL.1; have hcs := curN_ne (by omega) h'; have hcb := curN_bd (n := xs.length) (by omega) (by omega) h' (by omega); have hb1 := getD_bd hks (k := curN ix k) (by omega); have hb2 := getD_bd hks (k := curN ix k + 1) (by omega); have hst := hS.at (k := k) (by omega); obtain ⟨hst1, hst2, hst3, hst4⟩ := hst)) <;> (try (have hke : k = xs.length := (by omega); subst hke; have hAb := As_bd (p := p) (q := q) (xs := xs) (ix := ix) (kk := (ks.getD ((ks.length : Int) - 1).toNat 0)) (ks := ks) (n := xs.length) hp3; have hCb := Cs_bd (ix := ix) (n := xs.length) (ks := ks) (by omega) (by omega) (by omega) hq2 hks; have hmem := flat_mem hpM (flat4_bd hS) hAb; have hsb := sumL_lt (q := q) (by omega) (oneCs ix ks xs.length); have hch : 0 ≤ oneChal p q g s xs (oneAs p q xs ix (ks.getD ((ks.length : Int) - 1).toNat 0) ks xs.length) ∧ oneChal p q g s xs (oneAs p q xs ix (ks.getD ((ks.length : Int) - 1).toNat 0) ks xs.length) < q := chal_bd (by omega) _ _; have heb := oneE_bd (p := p) (g := g) (s := s) (xs := xs) (ix := ix) (ks := ks) hq2; have hmb := mul_bd (a := oneE p q g s xs ix ks) (b := x) (by omega) (by omega); have hgs := set_getD (xs := oneCs ix ks xs.length) (i := ix.toNat) (v := oneE p q g s xs ix ks) (by rw [Cs_len]; omega); have hE : (oneChal p q g s xs (oneAs p q xs ix (ks.getD ((ks.length : Int) - 1).toNat 0) ks xs.length) - sumL q (oneCs ix ks xs.length)) % q = oneE p q g s xs ix ks := rfl; replace hL := And.intro hE (And.intro hgs hL))))
    | (with_reducible refine AWp.skipS ?_)
    | ((with_reducible refine AWp.condT rfl ?_))
    | ((with_reducible refine AWp.condF rfl ?_))
    | (with_reducible refine AWp.condB rfl ?_)
    | ((with_reducible refine AWp.ret_id ?_); refine AWp.sub (Sub.nilBox 8 0 100000 3 .int rfl rfl rfl) ?_)
    | ((with_reducible refine AWp.ret_id ?_); refine AWp.sub (Sub.nilBox 8 1 100001 3 .int rfl rfl rfl) ?_)
    | ((with_reducible refine AWp.ret_id ?_); refine AWp.sub (Sub.nilBox 8 2 100002 3 .int rfl rfl rfl) ?_)
    | (with_reducible refine AWp.ret ?_)
    | (with_reducible refine seqQ_n ?_)
    | (with_reducible refine seqQ_ret ?_)
    | (with_reducible refine blkQ_ret ?_)
    | (with_reducible refine blkQ_n ?_)
    | (with_reducible refine seqQ_exit ?_)
    | (with_reducible refine blkQ_exit ?_)
    | (with_reducible refine blkQ_other (by decide) ?_)
    | (with_reducible refine AWp.block ?_)
    | (with_reducible refine AWp.exit ?_)
    | (with_reducible refine AWp.skip ?_)
    | ((with_reducible refine loop_id ?_); refine AWp.loopAt 6 rfl ?_; refine AWp.sub (Sub.nilBox 456 0 300100 3 .int rfl rfl rfl) ?_; refine AWp.sub (Sub.nilBox 456 1 300101 3 .int rfl rfl rfl) ?_; refine AWp.sub (Sub.nilBox 456 2 300102 3 .int rfl rfl rfl) ?_; refine AWp.loopO [15, 17, 18, 19, 20, 21, 22, 88, 89, 90, 91, 92, 93, 94, 95, 96, 97, 98, 99, 100, 101, 102, 103, 104, 105, 106, 107, 108, 109, 110, 111, 112, 113, 114, 115, 116, 117, 118, 119, 120, 121, 122, 123, 124, 125, 126, 127, 128, 129, 130, 131, 132, 133, 134, 135, 136, 137, 138, 139, 140, 141, 142, 143, 144] (fun k => [(88, .lit (.int .i64 (k : Nat))), (15, .lit (.int .i64 (curN ix k : Nat)))]) (fun k => [(456, .box 38 [.own 300100 (2 * k), .own 300101 k, .own 300102 k]), (300100, .row 3 .int (oneAs p q xs ix (ks.getD ((ks.length : Int) - 1).toNat 0) ks k)), (300101, .row 3 .int (oneCs ix ks k)), (300102, .row 3 .int (oneZs ix ks k))]) (fun k => k ≤ xs.length) (fun k => xs.length - k) 0 (by omega) (by refine Sub.auto (by first | exact frok0 | assumption) rfl rfl ?_ ?_ <;> (try simp only [subE, AS.over2, without, keys, look, List.cons_append, List.nil_append, List.append_nil, List.mem_cons, List.not_mem_nil, or_false, or_true, true_or, false_or, Nat.reduceEqDiff, ↓reduceIte, Option.some.injEq, AV.lit.injEq, Value.int.injEq, Value.bool.injEq, AV.own.injEq, AO.row.injEq, AO.box.injEq, List.cons.injEq, AV.agg.injEq, AV.sl.injEq, true_and, and_true, and_self, heq_eq_eq, List.length_nil, List.length_cons, List.map_nil, List.take_zero, Int.natCast_add, Int.cast_ofNat_Int, Int.natCast_zero, List.length_append, List.length_map, List.length_take, Nat.zero_add]) <;> (simp [oneAs, oneCs, oneZs, curN])) (fun k hk_6 L6 hLoop6 => ?_))
    | ((with_reducible refine seqQ_f ?_); refine hLoop6 (k + 1) _ (by omega) (by omega) ?_; (refine Sub.auto (by first | exact frok0 | assumption) rfl rfl ?_ ?_ <;> (try simp only [subE, AS.over2, without, keys, look, List.cons_append, List.nil_append, List.append_nil, List.mem_cons, List.not_mem_nil, or_false, or_true, true_or, false_or, Nat.reduceEqDiff, ↓reduceIte, Option.some.injEq, AV.lit.injEq, Value.int.injEq, Value.bool.injEq, AV.own.injEq, AO.row.injEq, AO.box.injEq, List.cons.injEq, AV.agg.injEq, AV.sl.injEq, true_and, and_true, and_self, heq_eq_eq, List.length_nil, List.length_cons, List.map_nil, List.take_zero, Int.natCast_add, Int.cast_ofNat_Int, Int.natCast_zero, List.length_append, List.length_map, List.length_take, Nat.zero_add]) <;> ((repeat' apply And.intro) <;> first | omega | exact As_step hA | exact Cs_step hC | exact Zs_step hZ)))
    | ((with_reducible refine EndsAt_id ?_); (try subst_vars); (try simp only [POne, okOne, prOne, As_len, Cs_len, Zs_len, List.length_set, hL, List.length_cons, List.length_nil, Nat.zero_add, Nat.reduceAdd, Bool.and_true, Bool.and_false, Bool.true_and, Bool.false_and, Bool.and_self, ↓reduceIte, Bool.false_eq_true, Bool.not_true, Bool.not_false, bne]); refine EndsAt.done [_, _, _] (by first | exact .inr rfl | exact .inl rfl) rfl rfl ?_ ?_ <;> first | decide | (repeat' (first | rfl | apply And.intro | trivial)))
    | (with_reducible refine AWp.seq ?_)⟩
noncomputable def c_sOneOf : Con0 := conF [(.pair .int (.pair .int .int)), .str, (.list (.pair .int (.pair .int (.pair .int .int)))), .int, .int, (.list .int)] fun (⟨⟨p, q, g⟩, s, xs, ix, x, ks, _⟩ : (Int × Int × Int) × ByteArray × (List (Int × Int × Int × Int)) × Int × Int × (List Int) × Unit) => (M.Grp p q g ∧ s.size ≤ 40 ∧ StsOK p q xs ∧ (0 ≤ ix ∧ ix ≤ (xs.length : Int) - 1) ∧ (0 ≤ x ∧ x < q) ∧ (ks.length : Int) = 2 * xs.length - 1 ∧ ∀ e ∈ ks, 0 ≤ e ∧ e < q, .agg [.own 0 (prOne p q g s xs ix x ks).1.length, .own 1 (prOne p q g s xs ix x ks).2.1.length, .own 2 (prOne p q g s xs ix x ks).2.2.length], [.row 3 .int (prOne p q g s xs ix x ks).1, .row 3 .int (prOne p q g s xs ix x ks).2.1, .row 3 .int (prOne p q g s xs ix x ks).2.2])
noncomputable def G_sOneOf : List (FuncId × Con) := [(69, mk c_gExp), (67, mk c_gMul), (140, mk c_sJoint), (84, mk c_nMod)]
theorem G_sOneOf_ok : ∀ f C, (f, C) ∈ G_sOneOf → C.ok Try.prog f := by
  intro f C h
  simp only [G_sOneOf, List.mem_cons, Prod.mk.injEq, List.not_mem_nil, or_false] at h
  rcases h with ⟨rfl, rfl⟩ | ⟨rfl, rfl⟩ | ⟨rfl, rfl⟩ | ⟨rfl, rfl⟩
  · exact ok_gExp
  · exact ok_gMul
  · exact ok_sJoint
  · exact ok_nMod
set_option maxRecDepth 100000 in
set_option maxHeartbeats 8000000 in
theorem ok_sOneOf : (mk c_sOneOf).ok Try.prog 107 := okF (Θ := Th) (N := 151) (rs := [.cell 12 38]) Th_ok Try.func107 (by kernel_rfl) rfl Try.results107 (by decide) (by kernel_rfl) fun (⟨⟨p, q, g⟩, s, xs, ix, x, ks, _⟩ : (Int × Int × Int) × ByteArray × (List (Int × Int × Int × Int)) × Int × Int × (List Int) × Unit) => ⟨rfl, rfl, Nat.le_of_ble_eq_true rfl, fun hc w0 => by
  have hL := dmy_eq
  try dsimp only at hc
  try dsimp only
  obtain ⟨hG, hs, hS, hin, hx, hkl, hks⟩ := hc
  have hq2 := hG.q2
  have hqp := hG.qp
  have hp3 := hG.p3
  have hpM := hG.pM
  have hgb : 0 ≤ g ∧ g < p := ⟨by have := hG.g2; omega, hG.gp⟩
  have hxl := hS.len
  have hkk := getD_bd hks (k := ((ks.length : Int) - 1).toNat) (by omega)
  refine AWp.body rfl ?_
  repeat' first
    | ((with_reducible refine hK _ _ ?_); clear hK K)
    | ((with_reducible refine hK _ _ (by kernel_rfl) ?_); clear hK K)
    | ((with_reducible refine AWp.pS Th_ok G_sOneOf_ok [0, 1, 2, 3, 4, 5, 6, 12, 13, 14, 15, 16, 17, 18, 19, 20, 27, 28, 29, 30, 36] (by decide) ?_); intro K hK)
    | ((with_reducible refine AWp.dS (by kernel_rfl) Th_ok G_sOneOf_ok [0, 1, 2, 3, 4, 5, 6, 12, 13, 14, 15, 16, 17, 18, 19, 20, 27, 28, 29, 30, 36] ?_); intro K hK)
    | ((with_reducible refine AWp.pE Th_ok G_sOneOf_ok [0, 1, 2, 3, 4, 5, 6, 12, 13, 14, 15, 16, 17, 18, 19, 20, 27, 28, 29, 30, 36] (by decide) ?_); intro K hK)
    | ((with_reducible refine AWp.dE (by kernel_rfl) Th_ok G_sOneOf_ok [0, 1, 2, 3, 4, 5, 6, 12, 13, 14, 15, 16, 17, 18, 19, 20, 27, 28, 29, 30, 36] ?_); intro K hK)
    | ((first | with_reducible refine runF_id ?_ | with_reducible refine stepF_id ?_); simp (maxSteps := 2000000) only [runF, stepF, forkOf, gdOf, List.toList_toArray, stepOp, look, opAV, pureOp, callOp, memOp, AS.ev, AS.get, AS.obj, initS, initFrom, AV.cells, AS.upd, Option.bind_some, Option.bind_none, Option.map_some, Option.map_none, Option.getD_none, Option.getD_some, ↓reduceIte, Nat.reduceEqDiff, Nat.reduceAdd, Nat.reduceMul, Nat.reduceSub, List.nil_append, List.append_nil, List.cons_append, List.map_cons, List.map_nil, true_and, and_true, AS.fin, pick, dedup, List.mem_cons, List.not_mem_nil, or_false, false_or, List.size_toArray, List.length_cons, List.length_nil, loadAV, List.drop_zero, List.drop_succ_cons, List.take_zero, List.take_succ_cons, List.getElem?_cons_zero, List.getElem?_cons_succ, List.head?_cons, List.mapM_cons, List.mapM_nil, Option.bind_eq_bind, Option.pure_def, deeps3, deep3, deep2, deep1, deeps, deeps2, mixInts, AV.plain, mk, mkD, DCon.lift, DCon.runC, ren3, ren2, ren1, numb, List.zipIdx_nil, List.zipIdx_cons, List.all_nil, List.all_cons, Nat.reduceLeDiff, List.range, List.range.loop, Ty.sz, beq_self_eq_true, Bool.and_self, and_self, Ty.ofC, AO.isDead, Nat.reduceLT, if_true, Nat.zero_add, Nat.add_zero, ite_true, Nat.le_refl, Bool.false_eq_true, reduceCtorEq, if_false, ite_false, binAV, AO.ren, AV.isCell, fillAV, List.set_cons_zero, List.set_cons_succ, Ty.cells, Ty.flat, Ty.dflt, List.getD_cons_zero, List.getD_cons_succ, Int.reduceToNat, Int.reduceSub, Int.reduceAdd, Int.reduceMul, Int.reduceNeg, forall_eq_or_imp, forall_eq, gdL, id_eq, Nat.lt_irrefl, srcOf, List.replicate_succ, List.replicate_zero, dite_true, List.isEmpty_cons, Option.isSome_some, List.length_append, List.length_singleton, bne_self_eq_false, Bool.not_true, Bool.not_false, conF, asArgs, asArg, asTy, asI1, asB1, asS1, asL1, canons, canon, Fork.true_, Fork.false_, bne, Bool.not_not, List.length_map, pickO, AS.over, TI.bl, bne_iff_ne, AS.over2, without, keys, List.mem_singleton, memOp2, memOp3, absorb, abInt, abBool, abStr, abList, gones, Int.toNat_natCast, List.take_length, subE, List.nodup_cons, List.nodup_nil, not_false_eq_true, Nat.sub_self, conR, asG, asI, asBo, asStr, asIs, asBs, asE4, asI2, asI3, asLL, asLLL, Th_int, Th_bool, Th_string, Th_Sint, Th_implGroup, Th_implProof, Th_implEqualLog, Th_implSEqualLog, G_sOneOf, c_gExp, c_gMul, c_sJoint, c_nMod, As_len, Cs_len, Zs_len, List.length_set, Int.toNat_natCast_add_one, expsB1, drop_getD, List.drop_drop, Nat.add_zero, Nat.zero_add, List.length_drop, hL])
    | ((with_reducible refine ens_step ?_ (fun hE => ?_)); · ((repeat' with_reducible apply And.intro) <;> first | with_reducible assumption | omega | exact True.intro | with_reducible rfl | exact (gpw_bd (by omega)).1 | exact (gpw_bd (by omega)).2 | (show ByteArray.size _ ≤ _; decide) | (simp; done) | (simp; omega) | rfl))
    | ((with_reducible refine And.intro ?_ ?_); · ((repeat' with_reducible apply And.intro) <;> first | with_reducible assumption | omega | exact True.intro | with_reducible rfl | exact (gpw_bd (by omega)).1 | exact (gpw_bd (by omega)).2 | (show ByteArray.size _ ≤ _; decide) | (simp; done) | (simp; omega) | rfl))
    | ((with_reducible refine Fork.intro (fun h' => ?_) (fun h' => ?_)) <;> (try simp only [Bool.not_eq_true', Bool.not_eq_false', bne] at h') <;> (replace hL := And.intro h' hL) <;> (try simp only [decide_eq_true_eq, decide_eq_false_iff_not, beq_iff_eq, beq_eq_false_iff_ne, ne_eq] at h') <;> (try (have hA := oneA_eq (p := p) (q := q) (xs := xs) (kk := (ks.getD ((ks.length : Int) - 1).toNat 0)) (ks := ks) hL.1; have hC := oneC_eq (ks := ks) hL.1; have hZ := oneZ_eq (ks := ks) hL.1; have hcs := curN_eq h'; have hst := hS.at (k := k) (by omega); obtain ⟨hst1, hst2, hst3, hst4⟩ := hst; have hsu := sum_step0 (q := q) hq2 hC)) <;> (try (have hA := oneA_ne' (p := p) (q := q) (xs := xs) (kk := (ks.getD ((ks.length : Int) - 1).toNat 0)) (ks := ks) hp3 hL.1; have hC := oneC_ne (ks := ks) hL.1; have hZ := oneZ_ne (ks := ks) hL.1; have hcs := curN_ne (by omega) h'; have hcb := curN_bd (n := xs.length) (by omega) (by omega) h' (by omega); have hb1 := getD_bd hks (k := curN ix k) (by omega); have hb2 := getD_bd hks (k := curN ix k + 1) (by omega); have hst := hS.at (k := k) (by omega); obtain ⟨hst1, hst2, hst3, hst4⟩ := hst; have hsu := sum_stepC (q := q) hC; have hsb := sumL_lt (q := q) (by omega) (oneCs ix ks k))) <;> (try (have hke : k = xs.length := (by omega); subst hke; have hAb := As_bd (p := p) (q := q) (xs := xs) (ix := ix) (kk := (ks.getD ((ks.length : Int) - 1).toNat 0)) (ks := ks) (n := xs.length) hp3; have hCb := Cs_bd (ix := ix) (n := xs.length) (ks := ks) (by omega) (by omega) (by omega) hq2 hks; have hmem := flat_mem hpM (flat4_bd hS) hAb; have hsb := sumL_lt (q := q) (by omega) (oneCs ix ks xs.length); have hch : 0 ≤ oneChal p q g s xs (oneAs p q xs ix (ks.getD ((ks.length : Int) - 1).toNat 0) ks xs.length) ∧ oneChal p q g s xs (oneAs p q xs ix (ks.getD ((ks.length : Int) - 1).toNat 0) ks xs.length) < q := chal_bd (by omega) _ _; have heb := oneE_bd (p := p) (g := g) (s := s) (xs := xs) (ix := ix) (ks := ks) hq2; have hmb := mul_bd (a := oneE p q g s xs ix ks) (b := x) (by omega) (by omega); have hgs := set_getD (xs := oneCs ix ks xs.length) (i := ix.toNat) (v := oneE p q g s xs ix ks) (by rw [Cs_len]; omega); have hE : (oneChal p q g s xs (oneAs p q xs ix (ks.getD ((ks.length : Int) - 1).toNat 0) ks xs.length) - sumL q (oneCs ix ks xs.length)) % q = oneE p q g s xs ix ks := rfl; replace hL := And.intro hE (And.intro hgs hL))))
    | (with_reducible refine AWp.skipS ?_)
    | ((with_reducible refine AWp.condT rfl ?_))
    | ((with_reducible refine AWp.condF rfl ?_))
    | (with_reducible refine AWp.condB rfl ?_)
    | (with_reducible refine AWp.ret ?_)
    | (with_reducible refine seqQ_n ?_)
    | (with_reducible refine seqQ_ret ?_)
    | (with_reducible refine blkQ_ret ?_)
    | (with_reducible refine blkQ_n ?_)
    | (with_reducible refine seqQ_exit ?_)
    | (with_reducible refine blkQ_exit ?_)
    | (with_reducible refine blkQ_other (by decide) ?_)
    | (with_reducible refine AWp.block ?_)
    | (with_reducible refine AWp.exit ?_)
    | (with_reducible refine AWp.skip ?_)
    | ((with_reducible refine loop_id ?_); refine AWp.loopAt 5 rfl ?_; refine AWp.sub (Sub.nilBox 16 0 300100 3 .int rfl rfl rfl) ?_; refine AWp.sub (Sub.nilBox 16 1 300101 3 .int rfl rfl rfl) ?_; refine AWp.sub (Sub.nilBox 16 2 300102 3 .int rfl rfl rfl) ?_; refine AWp.loopO [5, 15, 16, 17, 18, 19, 29, 30, 31, 32, 33, 34, 35, 36, 37, 38, 39, 40, 41, 42, 43, 44, 45, 46, 47, 48, 49, 50, 51, 52, 53, 54, 55, 56, 57, 58, 59, 60, 61, 62, 63, 64, 65, 66, 67, 68, 69, 70, 71, 72, 73, 74, 75, 76, 77, 78, 79, 80, 81, 82, 83, 84, 85, 86, 87, 88, 89, 90, 91, 92, 93, 94, 95, 96, 97, 98, 99, 100, 101, 102, 103, 104, 105, 106, 107, 108, 109, 110, 111, 112, 113, 114, 115, 116, 117, 118, 119, 120, 121] (fun k => [(29, .lit (.int .i64 (k : Nat))), (5, .sl .int (ks.drop (curN ix k))), (15, .lit (.int .i64 (sumL q (oneCs ix ks k))))]) (fun k => [(16, .box 38 [.own 300100 (2 * k), .own 300101 k, .own 300102 k]), (300100, .row 3 .int (oneAs p q xs ix (ks.getD ((ks.length : Int) - 1).toNat 0) ks k)), (300101, .row 3 .int (oneCs ix ks k)), (300102, .row 3 .int (oneZs ix ks k))]) (fun k => k ≤ xs.length) (fun k => xs.length - k) 0 (by omega) (by refine Sub.auto (by first | exact frok0 | assumption) rfl rfl ?_ ?_ <;> (try simp only [subE, AS.over2, without, keys, look, List.cons_append, List.nil_append, List.append_nil, List.mem_cons, List.not_mem_nil, or_false, or_true, true_or, false_or, Nat.reduceEqDiff, ↓reduceIte, Option.some.injEq, AV.lit.injEq, Value.int.injEq, Value.bool.injEq, AV.own.injEq, AO.row.injEq, AO.box.injEq, List.cons.injEq, AV.agg.injEq, AV.sl.injEq, true_and, and_true, and_self, heq_eq_eq, List.length_nil, List.length_cons, List.map_nil, List.take_zero, Int.natCast_add, Int.cast_ofNat_Int, Int.natCast_zero, List.length_append, List.length_map, List.length_take, Nat.zero_add]) <;> (simp [oneAs, oneCs, oneZs, curN, sumL])) (fun k hk_5 L5 hLoop5 => ?_))
    | ((with_reducible refine seqQ_f ?_); refine hLoop5 (k + 1) _ (by omega) (by omega) ?_; (refine Sub.auto (by first | exact frok0 | assumption) rfl rfl ?_ ?_ <;> (try simp only [subE, AS.over2, without, keys, look, List.cons_append, List.nil_append, List.append_nil, List.mem_cons, List.not_mem_nil, or_false, or_true, true_or, false_or, Nat.reduceEqDiff, ↓reduceIte, Option.some.injEq, AV.lit.injEq, Value.int.injEq, Value.bool.injEq, AV.own.injEq, AO.row.injEq, AO.box.injEq, List.cons.injEq, AV.agg.injEq, AV.sl.injEq, true_and, and_true, and_self, heq_eq_eq, List.length_nil, List.length_cons, List.map_nil, List.take_zero, Int.natCast_add, Int.cast_ofNat_Int, Int.natCast_zero, List.length_append, List.length_map, List.length_take, Nat.zero_add]) <;> ((repeat' apply And.intro) <;> first | omega | exact As_step hA | exact Cs_step hC | exact Zs_step hZ | (rw [hcs]) | exact hsu | exact hsu.symm | (rw [hcs, ← List.drop_drop]))))
    | ((with_reducible refine EndsAt_id ?_); (try subst_vars); (try simp only [prOne, As_len, Cs_len, Zs_len, List.length_set, hL, List.length_cons, List.length_nil, Nat.zero_add, Nat.reduceAdd, Bool.and_true, Bool.and_false, Bool.true_and, Bool.false_and, Bool.and_self, ↓reduceIte, Bool.false_eq_true, Bool.not_true, Bool.not_false, bne]); refine EndsAt.done [_, _, _] (by first | exact .inr rfl | exact .inl rfl) rfl rfl ?_ ?_ <;> first | decide | (repeat' (first | rfl | apply And.intro | trivial)))
    | (with_reducible refine AWp.seq ?_)⟩
noncomputable def c_ProveOneOfS : Con0 := conF [(.pair .int (.pair .int .int)), .str, (.list (.pair .int (.pair .int (.pair .int .int)))), .int, .int, (.list .int)] fun (⟨⟨p, q, g⟩, s, xs, ix, x, ks, _⟩ : (Int × Int × Int) × ByteArray × (List (Int × Int × Int × Int)) × Int × Int × (List Int) × Unit) => (xs.length ≤ 9223372036854775806, .tup [.agg [.own 0 (POne p q g s xs ix x ks).1.length, .own 1 (POne p q g s xs ix x ks).2.1.length, .own 2 (POne p q g s xs ix x ks).2.2.length], .lit (.bool (okOne p q g s xs ix x ks))], [.row 3 .int (POne p q g s xs ix x ks).1, .row 3 .int (POne p q g s xs ix x ks).2.1, .row 3 .int (POne p q g s xs ix x ks).2.2])
noncomputable def G_ProveOneOfS : List (FuncId × Con) := [(98, mk c_sLabel), (99, mk c_sAll), (63, mk c_l1In), (65, mk c_gExps), (106, mk c_sTrue), (107, mk c_sOneOf)]
theorem G_ProveOneOfS_ok : ∀ f C, (f, C) ∈ G_ProveOneOfS → C.ok Try.prog f := by
  intro f C h
  simp only [G_ProveOneOfS, List.mem_cons, Prod.mk.injEq, List.not_mem_nil, or_false] at h
  rcases h with ⟨rfl, rfl⟩ | ⟨rfl, rfl⟩ | ⟨rfl, rfl⟩ | ⟨rfl, rfl⟩ | ⟨rfl, rfl⟩ | ⟨rfl, rfl⟩
  · exact ok_sLabel
  · exact ok_sAll
  · exact ok_l1In
  · exact ok_gExps
  · exact ok_sTrue
  · exact ok_sOneOf
set_option maxRecDepth 100000 in
set_option maxHeartbeats 4000000 in
theorem ok_ProveOneOfS : (mk c_ProveOneOfS).ok Try.prog 48 := okF (Θ := Th) (N := 72) (rs := [.cell 12 38, .tmp 13]) Th_ok Try.func48 (by kernel_rfl) rfl Try.results48 (by decide) (by kernel_rfl) fun (⟨⟨p, q, g⟩, s, xs, ix, x, ks, _⟩ : (Int × Int × Int) × ByteArray × (List (Int × Int × Int × Int)) × Int × Int × (List Int) × Unit) => ⟨rfl, rfl, Nat.le_of_ble_eq_true rfl, fun hc w0 => by
  have hL := dmy_eq
  try dsimp only at hc
  try dsimp only
  have hrl0 := hc
  refine AWp.body rfl ?_
  repeat' first
    | ((with_reducible refine hK _ _ ?_); clear hK K)
    | ((with_reducible refine hK _ _ (by kernel_rfl) ?_); clear hK K)
    | ((with_reducible refine AWp.pS Th_ok G_ProveOneOfS_ok [0, 1, 2, 3, 4, 5, 6, 12, 13, 63] (by decide) ?_); intro K hK)
    | ((with_reducible refine AWp.dS (by kernel_rfl) Th_ok G_ProveOneOfS_ok [0, 1, 2, 3, 4, 5, 6, 12, 13, 63] ?_); intro K hK)
    | ((with_reducible refine AWp.pE Th_ok G_ProveOneOfS_ok [0, 1, 2, 3, 4, 5, 6, 12, 13, 63] (by decide) ?_); intro K hK)
    | ((with_reducible refine AWp.dE (by kernel_rfl) Th_ok G_ProveOneOfS_ok [0, 1, 2, 3, 4, 5, 6, 12, 13, 63] ?_); intro K hK)
    | ((first | with_reducible refine runF_id ?_ | with_reducible refine stepF_id ?_); simp (maxSteps := 2000000) only [runF, stepF, forkOf, gdOf, List.toList_toArray, stepOp, look, opAV, pureOp, callOp, memOp, AS.ev, AS.get, AS.obj, initS, initFrom, AV.cells, AS.upd, Option.bind_some, Option.bind_none, Option.map_some, Option.map_none, Option.getD_none, Option.getD_some, ↓reduceIte, Nat.reduceEqDiff, Nat.reduceAdd, Nat.reduceMul, Nat.reduceSub, List.nil_append, List.append_nil, List.cons_append, List.map_cons, List.map_nil, true_and, and_true, AS.fin, pick, dedup, List.mem_cons, List.not_mem_nil, or_false, false_or, List.size_toArray, List.length_cons, List.length_nil, loadAV, List.drop_zero, List.drop_succ_cons, List.take_zero, List.take_succ_cons, List.getElem?_cons_zero, List.getElem?_cons_succ, List.head?_cons, List.mapM_cons, List.mapM_nil, Option.bind_eq_bind, Option.pure_def, deeps3, deep3, deep2, deep1, deeps, deeps2, mixInts, AV.plain, mk, mkD, DCon.lift, DCon.runC, ren3, ren2, ren1, numb, List.zipIdx_nil, List.zipIdx_cons, List.all_nil, List.all_cons, Nat.reduceLeDiff, List.range, List.range.loop, Ty.sz, beq_self_eq_true, Bool.and_self, and_self, Ty.ofC, AO.isDead, Nat.reduceLT, if_true, Nat.zero_add, Nat.add_zero, ite_true, Nat.le_refl, Bool.false_eq_true, reduceCtorEq, if_false, ite_false, binAV, AO.ren, AV.isCell, fillAV, List.set_cons_zero, List.set_cons_succ, Ty.cells, Ty.flat, Ty.dflt, List.getD_cons_zero, List.getD_cons_succ, Int.reduceToNat, Int.reduceSub, Int.reduceAdd, Int.reduceMul, Int.reduceNeg, forall_eq_or_imp, forall_eq, gdL, id_eq, Nat.lt_irrefl, srcOf, List.replicate_succ, List.replicate_zero, dite_true, List.isEmpty_cons, Option.isSome_some, List.length_append, List.length_singleton, bne_self_eq_false, Bool.not_true, Bool.not_false, conF, asArgs, asArg, asTy, asI1, asB1, asS1, asL1, canons, canon, Fork.true_, Fork.false_, bne, Bool.not_not, List.length_map, pickO, AS.over, TI.bl, bne_iff_ne, AS.over2, without, keys, List.mem_singleton, memOp2, memOp3, absorb, abInt, abBool, abStr, abList, gones, Int.toNat_natCast, List.take_length, subE, List.nodup_cons, List.nodup_nil, not_false_eq_true, Nat.sub_self, conR, asG, asI, asBo, asStr, asIs, asBs, asE4, asI2, asI3, asLL, asLLL, Th_int, Th_bool, Th_string, Th_Sint, Th_implGroup, Th_implProof, Th_implEqualLog, Th_implSEqualLog, G_ProveOneOfS, c_sLabel, c_sAll, c_l1In, c_gExps, c_sTrue, c_sOneOf, expsB1, hL])
    | ((with_reducible refine ens_step ?_ (fun hE => ?_)); · ((repeat' with_reducible apply And.intro) <;> first | with_reducible assumption | omega | exact True.intro | with_reducible rfl | (show ByteArray.size _ ≤ _; decide) | (simp; done) | (simp; omega) | rfl))
    | ((with_reducible refine And.intro ?_ ?_); · ((repeat' with_reducible apply And.intro) <;> first | with_reducible assumption | omega | exact True.intro | with_reducible rfl | (show ByteArray.size _ ≤ _; decide) | (simp; done) | (simp; omega) | rfl))
    | ((with_reducible refine Fork.intro (fun h' => ?_) (fun h' => ?_)) <;> (try simp only [Bool.not_eq_true', Bool.not_eq_false', bne] at h') <;> (replace hL := And.intro h' hL) <;> (try simp only [decide_eq_true_eq, decide_eq_false_iff_not, beq_iff_eq, beq_eq_false_iff_ne, ne_eq] at h') <;> (try (have hsl := h'; rw [Bool.and_eq_true, decide_eq_true_eq] at hsl; obtain ⟨hg1, hg2⟩ := hsl; have hG := M.goodB_of hg1; have hq2 := hG.q2; have hqp := hG.qp; have hp3 := hG.p3; have hpM := hG.pM)) <;> (try (have hS := okSt_use h'; have hxl := hS.len)) <;> (try (have hin := inr_t h')) <;> (try (have hks := expsB_all12 (xs := ks) h'; have hst0 := hS.at (k := ix.toNat) (by omega); obtain ⟨hs01, hs02, hs03, hs04⟩ := hst0; have hkk := getD_bd hks (k := ((ks.length : Int) - 1).toNat) (by omega))))
    | (with_reducible refine AWp.skipS ?_)
    | ((with_reducible refine AWp.condT rfl ?_))
    | ((with_reducible refine AWp.condF rfl ?_))
    | (with_reducible refine AWp.condB rfl ?_)
    | ((with_reducible refine AWp.ret_id ?_); refine AWp.sub (Sub.nilBox 8 0 100000 3 .int rfl rfl rfl) ?_)
    | ((with_reducible refine AWp.ret_id ?_); refine AWp.sub (Sub.nilBox 8 1 100001 3 .int rfl rfl rfl) ?_)
    | ((with_reducible refine AWp.ret_id ?_); refine AWp.sub (Sub.nilBox 8 2 100002 3 .int rfl rfl rfl) ?_)
    | (with_reducible refine AWp.ret ?_)
    | (with_reducible refine seqQ_n ?_)
    | (with_reducible refine seqQ_ret ?_)
    | (with_reducible refine blkQ_ret ?_)
    | (with_reducible refine blkQ_n ?_)
    | (with_reducible refine seqQ_exit ?_)
    | (with_reducible refine blkQ_exit ?_)
    | (with_reducible refine blkQ_other (by decide) ?_)
    | (with_reducible refine AWp.block ?_)
    | (with_reducible refine AWp.exit ?_)
    | (with_reducible refine AWp.skip ?_)
    | ((with_reducible refine EndsAt_id ?_); (try subst_vars); (try simp only [POne, okOne, hL, List.length_cons, List.length_nil, Nat.zero_add, Nat.reduceAdd, Bool.and_true, Bool.and_false, Bool.true_and, Bool.false_and, Bool.and_self, ↓reduceIte, Bool.false_eq_true, Bool.not_true, Bool.not_false, bne]); refine EndsAt.done [_, _, _] (by first | exact .inr rfl | exact .inl rfl) rfl rfl ?_ ?_ <;> first | decide | (repeat' (first | rfl | apply And.intro | trivial)))
    | (with_reducible refine AWp.seq ?_)⟩
end Go.Proofs.Ytljlimlgdnbllaa
