import Derived.Test.YtgnnmifpfgpllaaZD37
import Derived.Test.YtgnnmifpfgpllaaZC3
/- Proofs of ranges. -/
set_option linter.all false
set_option linter.unusedVariables false
set_option linter.unusedSimpArgs false
namespace Go.Proofs.Ytgnnmifpfgpllaa
open Go.RowKit
theorem expsB_1 {q r : Int} : expsB q [r] = inr r 0 (q - 1) := by simp [expsB]
/-- the last coin of a range, behind k steps -/
def r0F (q r : Int) (l : List Int) : Nat → Int
  | 0 => r
  | k + 1 => (r0F q r l k - 1 * 2 ^ (k + 1) * l.getD k 0) % q
theorem r0F_bd {q r : Int} {l : List Int} (hq : 2 ≤ q) (hr : 0 ≤ r ∧ r < q) : ∀ k, 0 ≤ r0F q r l k ∧ r0F q r l k < q
  | 0 => hr
  | k + 1 => emod_bd (by omega)
def cut3 (ks : List Int) (n : Int) (k : Nat) : List Int := (ks.drop (n - 1 + 3 * (k : Int)).toNat).take 3
theorem cut3_eq {ks : List Int} {n : Int} {k : Nat} (hn : 1 ≤ n) : (ks.take (n + 2 + 3 * (k : Int)).toNat).drop (n - 1 + 3 * (k : Int)).toNat = cut3 ks n k := by
  unfold cut3
  rw [List.drop_take]
  congr 1
  omega
theorem cut3_len {ks : List Int} {n : Int} {k : Nat} (hn : 1 ≤ n) (hl : (ks.length : Int) = 4 * n - 1) (hk : (k : Int) < n) : (cut3 ks n k).length = 3 := by
  unfold cut3
  rw [List.length_take, List.length_drop]
  omega
theorem cut3_bd {q : Int} {ks : List Int} {n : Int} {k : Nat} (h : ∀ x ∈ ks, 0 ≤ x ∧ x < q) : ∀ x ∈ cut3 ks n k, 0 ≤ x ∧ x < q := fun x hx => h x (List.mem_of_mem_drop (List.mem_of_mem_take hx))
/-- the coins of the bits -/
def rsL (q r n : Int) (ks : List Int) : List Int := r0F q r (ks.take (n - 1).toNat) (ks.take (n - 1).toNat).length :: ks.take (n - 1).toNat
noncomputable def rgB (p q g bh m r n : Int) (ks : List Int) (k : Nat) : List Int := (List.range k).map fun i => cmt p q g bh (m / 2 ^ i % 2) ((rsL q r n ks).getD i 0)
noncomputable def rgP (p q g bh m r n : Int) (ks : List Int) (k : Nat) : List (List Int × List Int × List Int) := (List.range k).map fun i => prBit p q g bh (m / 2 ^ i % 2) ((rsL q r n ks).getD i 0) ((cut3 ks n i).getD 0 0) ((cut3 ks n i).getD 1 0) ((cut3 ks n i).getD 2 0)
section
variable {p q g bh m r n : Int} {ks : List Int} {k : Nat}
theorem rsL_len (hn : 1 ≤ n) (hl : (ks.length : Int) = 4 * n - 1) : ((rsL q r n ks).length : Int) = n := by
  unfold rsL
  rw [List.length_cons, List.length_take]; omega
theorem rsL_bd (hq : 2 ≤ q) (hr : 0 ≤ r ∧ r < q) (h : ∀ x ∈ ks, 0 ≤ x ∧ x < q) : ∀ x ∈ rsL q r n ks, 0 ≤ x ∧ x < q := fun x hx => by
  rcases List.mem_cons.1 hx with rfl | hx
  · exact r0F_bd hq hr _
  · exact h x (List.mem_of_mem_take hx)
theorem rgB_len : (rgB p q g bh m r n ks k).length = k := by simp [rgB]
theorem rgP_len : (rgP p q g bh m r n ks k).length = k := by simp [rgP]
theorem rgB_step : rgB p q g bh m r n ks k ++ [cmt p q g bh (m / 2 ^ k % 2) ((rsL q r n ks).getD k 0)] = rgB p q g bh m r n ks (k + 1) := by simp [rgB, List.range_succ]
theorem rgP_step : rgP p q g bh m r n ks k ++ [((prBit p q g bh (m / 2 ^ k % 2) ((rsL q r n ks).getD k 0) ((cut3 ks n k).getD 0 0) ((cut3 ks n k).getD 1 0) ((cut3 ks n k).getD 2 0)).1, (prBit p q g bh (m / 2 ^ k % 2) ((rsL q r n ks).getD k 0) ((cut3 ks n k).getD 0 0) ((cut3 ks n k).getD 1 0) ((cut3 ks n k).getD 2 0)).2.1, (prBit p q g bh (m / 2 ^ k % 2) ((rsL q r n ks).getD k 0) ((cut3 ks n k).getD 0 0) ((cut3 ks n k).getD 1 0) ((cut3 ks n k).getD 2 0)).2.2)] = rgP p q g bh m r n ks (k + 1) := by simp [rgP, List.range_succ]
end
theorem bit01 (x : Int) : x % 2 = 0 ∨ x % 2 = 1 := by omega
theorem shr_bd {m : Int} {k : Nat} (h : 0 ≤ m) : 0 ≤ m / 2 ^ k ∧ m / 2 ^ k ≤ m := by
  have e : ((2 : Int) ^ k) = ((2 ^ k : Nat) : Int) := by rw [Int.natCast_pow]; rfl
  rw [e]
  exact ⟨Int.ediv_nonneg h (Int.natCast_nonneg _), Int.ediv_le_self _ h⟩
theorem sub_mod_r {a b q : Int} : (a - b % q) % q = (a - b) % q := M.cg.sub M.cg.rfl' M.cg.md
theorem pow_sm {k : Nat} (h : k ≤ 16) : 0 < (2 : Int) ^ k ∧ (2 : Int) ^ k ≤ 65536 := by
  have h1 := pow16 (n := 16) (by omega)
  have e : ∀ m : Nat, ((2 : Int) ^ m) = ((2 ^ m : Nat) : Int) := fun m => by rw [Int.natCast_pow]; rfl
  have h1 : 2 ^ k ≤ 2 ^ 16 := Nat.pow_le_pow_right (by omega) h
  have h2 : 0 < 2 ^ k := Nat.pow_pos (by omega)
  rw [e]
  have : (2 : Nat) ^ 16 = 65536 := by decide
  omega
noncomputable def c_proveRange : Con0 := conF [(.pair .int (.pair .int .int)), (.pair .int (.list .int)), .int, .int, .int, (.list .int)] fun (⟨⟨p, q, g⟩, ⟨bh, bs⟩, m, r, n, ks, _⟩ : (Int × Int × Int) × (Int × List Int) × Int × Int × Int × (List Int) × Unit) => (M.Grp p q g ∧ (0 ≤ bh ∧ bh < p) ∧ (0 ≤ m ∧ m ≤ 65535) ∧ (0 ≤ r ∧ r < q) ∧ (1 ≤ n ∧ n ≤ 16) ∧ (ks.length : Int) = 4 * n - 1 ∧ ∀ x ∈ ks, 0 ≤ x ∧ x < q, .agg [.own 0 n.toNat, .own 1 n.toNat], [.row 3 .int (rgB p q g bh m r n ks n.toNat), .row 100 (.pair (.list .int) (.pair (.list .int) (.list .int))) (rgP p q g bh m r n ks n.toNat)])
noncomputable def G_proveRange : List (FuncId × Con) := [(66, mk c_exp), (92, mk c_commit), (93, mk c_proveBit)]
theorem G_proveRange_ok : ∀ f C, (f, C) ∈ G_proveRange → C.ok Try.prog f := by
  intro f C h
  simp only [G_proveRange, List.mem_cons, Prod.mk.injEq, List.not_mem_nil, or_false] at h
  rcases h with ⟨rfl, rfl⟩ | ⟨rfl, rfl⟩ | ⟨rfl, rfl⟩
  · exact ok_exp
  · exact ok_commit
  · exact ok_proveBit
set_option maxRecDepth 100000 in
set_option maxHeartbeats 4000000 in
theorem ok_proveRange : (mk c_proveRange).ok Try.prog 61 := okF (Θ := Th) (N := 94) (rs := [.cell 12 40]) Th_ok Try.func61 (by kernel_rfl) rfl Try.results61 (by decide) (by kernel_rfl) fun (⟨⟨p, q, g⟩, ⟨bh, bs⟩, m, r, n, ks, _⟩ : (Int × Int × Int) × (Int × List Int) × Int × Int × Int × (List Int) × Unit) => ⟨rfl, rfl, Nat.le_of_ble_eq_true rfl, fun hc w0 => by
  have hL := dmy_eq
  try dsimp only at hc
  try dsimp only
  obtain ⟨hG, hbb, hm, hr, hn, hkl, hks⟩ := hc
  have hq2 := hG.q2
  have hqp := hG.qp
  have hp3 := hG.p3
  have hpM := hG.pM
  have hgb : 0 ≤ g ∧ g < p := ⟨by have := hG.g2; omega, hG.gp⟩
  obtain ⟨l, hle⟩ : ∃ l, l = ks.take (n - 1).toNat := ⟨_, rfl⟩
  have hll : (l.length : Int) = n - 1 := by rw [hle, List.length_take]; omega
  have hlb : ∀ x ∈ l, 0 ≤ x ∧ x < q := fun x hx => hks x (by rw [hle] at hx; exact List.mem_of_mem_take hx)
  have hrsl := rsL_len (q := q) (r := r) hn.1 hkl
  have hrsb := rsL_bd (n := n) hq2 hr hks
  replace hL := And.intro hle.symm hL
  refine AWp.body rfl ?_
  repeat' first
    | ((with_reducible refine hK _ _ ?_); clear hK K)
    | ((with_reducible refine hK _ _ (by kernel_rfl) ?_); clear hK K)
    | ((with_reducible refine AWp.pS Th_ok G_proveRange_ok [0, 1, 2, 3, 4, 5, 6, 7, 12, 13, 14, 15, 16, 17, 18, 19, 29, 51, 52, 53, 54] (by decide) ?_); intro K hK)
    | ((with_reducible refine AWp.dS (by kernel_rfl) Th_ok G_proveRange_ok [0, 1, 2, 3, 4, 5, 6, 7, 12, 13, 14, 15, 16, 17, 18, 19, 29, 51, 52, 53, 54] ?_); intro K hK)
    | ((with_reducible refine AWp.pE Th_ok G_proveRange_ok [0, 1, 2, 3, 4, 5, 6, 7, 12, 13, 14, 15, 16, 17, 18, 19, 29, 51, 52, 53, 54] (by decide) ?_); intro K hK)
    | ((with_reducible refine AWp.dE (by kernel_rfl) Th_ok G_proveRange_ok [0, 1, 2, 3, 4, 5, 6, 7, 12, 13, 14, 15, 16, 17, 18, 19, 29, 51, 52, 53, 54] ?_); intro K hK)
    | ((first | with_reducible refine runF_id ?_ | with_reducible refine stepF_id ?_); simp (maxSteps := 2000000) only [runF, stepF, forkOf, gdOf, List.toList_toArray, stepOp, look, opAV, pureOp, callOp, memOp, AS.ev, AS.get, AS.obj, initS, initFrom, AV.cells, AS.upd, Option.bind_some, Option.bind_none, Option.map_some, Option.map_none, Option.getD_none, Option.getD_some, ↓reduceIte, Nat.reduceEqDiff, Nat.reduceAdd, Nat.reduceMul, Nat.reduceSub, List.nil_append, List.append_nil, List.cons_append, List.map_cons, List.map_nil, true_and, and_true, AS.fin, pick, dedup, List.mem_cons, List.not_mem_nil, or_false, false_or, List.size_toArray, List.length_cons, List.length_nil, loadAV, List.drop_zero, List.drop_succ_cons, List.take_zero, List.take_succ_cons, List.getElem?_cons_zero, List.getElem?_cons_succ, List.head?_cons, List.mapM_cons, List.mapM_nil, Option.bind_eq_bind, Option.pure_def, deeps3, deep3, deep2, deep1, deeps, deeps2, mixInts, AV.plain, mk, mkD, DCon.lift, DCon.runC, ren3, ren2, ren1, numb, List.zipIdx_nil, List.zipIdx_cons, List.all_nil, List.all_cons, Nat.reduceLeDiff, List.range, List.range.loop, Ty.sz, beq_self_eq_true, Bool.and_self, and_self, Ty.ofC, AO.isDead, Nat.reduceLT, if_true, Nat.zero_add, Nat.add_zero, ite_true, Nat.le_refl, Bool.false_eq_true, reduceCtorEq, if_false, ite_false, binAV, AO.ren, AV.isCell, fillAV, List.set_cons_zero, List.set_cons_succ, Ty.cells, Ty.flat, Ty.dflt, List.getD_cons_zero, List.getD_cons_succ, Int.reduceToNat, Int.reduceSub, Int.reduceAdd, Int.reduceMul, Int.reduceNeg, forall_eq_or_imp, forall_eq, gdL, id_eq, Nat.lt_irrefl, srcOf, List.replicate_succ, List.replicate_zero, dite_true, List.isEmpty_cons, Option.isSome_some, List.length_append, List.length_singleton, bne_self_eq_false, Bool.not_true, Bool.not_false, conF, asArgs, asArg, asTy, asI1, asB1, asS1, asL1, canons, canon, Fork.true_, Fork.false_, bne, Bool.not_not, List.length_map, pickO, AS.over, TI.bl, bne_iff_ne, AS.over2, without, keys, List.mem_singleton, memOp2, memOp3, absorb, abInt, abBool, abStr, abList, gones, Int.toNat_natCast, List.take_length, subE, List.nodup_cons, List.nodup_nil, not_false_eq_true, Nat.sub_self, conR, asG, asI, asBo, asStr, asIs, asBs, asE4, asI2, asI3, asLL, asLLL, Th_int, Th_Sint, Th_bool, Th_implBases, Th_implGroup, Th_implRangeProof, Th_implSProof, Th_implSTranscript, Th_implTranscript, Th_lawsBases, Th_lawsGroup, Th_lawsSProof, Th_uint, G_proveRange, c_exp, c_commit, c_proveBit, hL])
    | ((with_reducible refine ens_step ?_ (fun hE => ?_)); · ((repeat' with_reducible apply And.intro) <;> first | with_reducible assumption | omega | exact True.intro | with_reducible rfl | (show ByteArray.size _ ≤ _; decide) | (simp; done) | (simp; omega) | rfl))
    | ((with_reducible refine And.intro ?_ ?_); · ((repeat' with_reducible apply And.intro) <;> first | with_reducible assumption | omega | exact True.intro | with_reducible rfl | (show ByteArray.size _ ≤ _; decide) | (simp; done) | (simp; omega) | rfl))
    | ((with_reducible refine Fork.intro (fun h' => ?_) (fun h' => ?_)) <;> (try simp only [Bool.not_eq_true', Bool.not_eq_false', bne] at h') <;> (replace hL := And.intro h' hL) <;> (try simp only [decide_eq_true_eq, decide_eq_false_iff_not, beq_iff_eq, beq_eq_false_iff_ne, ne_eq] at h') <;> (try (have hlk := getD_bd' hlb (k := k) (by omega); have hpk := pow_sm (k := k + 1) (by omega); have hrk := r0F_bd (l := l) hq2 hr k; have hmb := mul_bd (a := 1 * 2 ^ (k + 1)) (b := l.getD k 0) (by omega) (by omega); have hme := emod_bd (n := 1 * 2 ^ (k + 1) * l.getD k 0) (q := q) (by omega); have hse : (r0F q r l k - (1 * 2 ^ (k + 1) * l.getD k 0) % q) % q = r0F q r l (k + 1) := sub_mod_r; have hse2 : (r0F q r l k - 1 * 2 ^ (k + 1) * l.getD k 0) % q = r0F q r l (k + 1) := rfl; have hk1 : ((k : Int) + 1).toNat = k + 1 := (by omega); replace hL := And.intro hse (And.intro hse2 (And.intro hk1 hL)))) <;> (try (have hke : k = l.length := (by omega); subst hke; have hrs : r0F q r l l.length :: l = rsL q r n ks := (by subst hle; rfl); replace hL := And.intro hrs hL)) <;> (try (have hjr := getD_bd' hrsb (k := j) (by omega); have hjs := shr_bd (m := m) (k := j) hm.1; have hjb := bit01 (m / 2 ^ j); have hjc := cut3_len (k := j) hn.1 hkl (by omega); have hjd := cut3_bd (n := n) (k := j) hks; have hce : (ks.drop (n - 1 + 3 * (j : Int)).toNat).take 3 = cut3 ks n j := rfl; have hcf := cut3_eq (ks := ks) (n := n) (k := j) hn.1; have hst1 := rgB_step (p := p) (q := q) (g := g) (bh := bh) (m := m) (r := r) (n := n) (ks := ks) (k := j); have hst2 := rgP_step (p := p) (q := q) (g := g) (bh := bh) (m := m) (r := r) (n := n) (ks := ks) (k := j); have hpl := prBit_len (p := p) (q := q) (g := g) (bh := bh) (m := m / 2 ^ j % 2) (r := (rsL q r n ks).getD j 0) (k0 := (cut3 ks n j).getD 0 0) (k1 := (cut3 ks n j).getD 1 0) (k2 := (cut3 ks n j).getD 2 0); obtain ⟨hp1, hp2, hp3'⟩ := hpl; replace hL := And.intro hce (And.intro hcf hL))) <;> (try (have hje : j = n.toNat := (by omega); subst hje)))
    | (with_reducible refine AWp.skipS ?_)
    | ((with_reducible refine AWp.condT rfl ?_))
    | ((with_reducible refine AWp.condF rfl ?_))
    | (with_reducible refine AWp.condB rfl ?_)
    | (with_reducible refine AWp.ret ?_)
    | (with_reducible refine seqQ_n ?_)
    | (with_reducible refine seqQ_ret ?_)
    | (with_reducible refine blkQ_ret ?_)
    | (with_reducible refine blkQ_n ?_)
    | (with_reducible refine seqQ_exit ?_)
    | (with_reducible refine blkQ_exit ?_)
    | (with_reducible refine blkQ_other (by decide) ?_)
    | (with_reducible refine AWp.block ?_)
    | (with_reducible refine AWp.exit ?_)
    | (with_reducible refine AWp.skip ?_)
    | ((with_reducible refine loop_id ?_); refine AWp.loopAt 3 rfl ?_; refine AWp.loopO [14, 27, 28, 29, 30, 31, 32, 33, 34, 35, 36, 37, 38, 39, 40, 41, 42, 43, 44, 45, 46, 47, 48, 49] (fun k => [(14, .lit (.int .i64 ((k : Nat) + 1)))]) (fun k => [(32, .row 3 .int (r0F q r l k :: l))]) (fun k => k ≤ l.length) (fun k => l.length - k) 0 (by omega) (by refine Sub.auto (by first | exact frok0 | assumption) rfl rfl ?_ ?_ <;> (try simp only [subE, AS.over2, without, keys, look, List.cons_append, List.nil_append, List.append_nil, List.mem_cons, List.not_mem_nil, or_false, or_true, true_or, false_or, Nat.reduceEqDiff, ↓reduceIte, Option.some.injEq, AV.lit.injEq, Value.int.injEq, Value.bool.injEq, AV.own.injEq, AO.row.injEq, AO.box.injEq, List.cons.injEq, AV.agg.injEq, AV.sl.injEq, true_and, and_true, and_self, heq_eq_eq, List.length_nil, List.length_cons, List.map_nil, List.take_zero, Int.natCast_add, Int.cast_ofNat_Int, Int.natCast_zero, List.length_append, List.length_map, List.length_take, Nat.zero_add]) <;> ((repeat' apply And.intro) <;> first | rfl | (simp [r0F]; done) | omega)) (fun k hk_3 L3 hLoop3 => ?_))
    | ((with_reducible refine seqQ_f ?_); refine hLoop3 (k + 1) _ (by omega) (by omega) ?_; (refine Sub.auto (by first | exact frok0 | assumption) rfl rfl ?_ ?_ <;> (try simp only [subE, AS.over2, without, keys, look, List.cons_append, List.nil_append, List.append_nil, List.mem_cons, List.not_mem_nil, or_false, or_true, true_or, false_or, Nat.reduceEqDiff, ↓reduceIte, Option.some.injEq, AV.lit.injEq, Value.int.injEq, Value.bool.injEq, AV.own.injEq, AO.row.injEq, AO.box.injEq, List.cons.injEq, AV.agg.injEq, AV.sl.injEq, true_and, and_true, and_self, heq_eq_eq, List.length_nil, List.length_cons, List.map_nil, List.take_zero, Int.natCast_add, Int.cast_ofNat_Int, Int.natCast_zero, List.length_append, List.length_map, List.length_take, Nat.zero_add]) <;> ((repeat' apply And.intro) <;> first | rfl | omega)))
    | ((with_reducible refine loop_id ?_); refine AWp.loopAt 8 rfl ?_; refine AWp.sub (Sub.nilBox 128 0 300100 3 .int rfl rfl rfl) ?_; refine AWp.sub (Sub.nilBox 128 1 300101 100 (.pair (.list .int) (.pair (.list .int) (.list .int))) rfl rfl rfl) ?_; refine AWp.loopO [16, 17, 18, 19, 53, 54, 55, 56, 57, 58, 59, 60, 61, 62, 63, 64, 65, 66, 67, 68, 69, 70, 71, 72, 73, 74, 75, 76, 77, 78, 79, 80, 81, 82, 83, 84, 85, 86, 87, 88, 89, 90, 91, 92] (fun j => [(53, .lit (.int .i64 (j : Nat)))]) (fun j => [(128, .box 40 [.own 300100 j, .own 300101 j]), (300100, .row 3 .int (rgB p q g bh m r n ks j)), (300101, .row 100 (.pair (.list .int) (.pair (.list .int) (.list .int))) (rgP p q g bh m r n ks j))]) (fun j => (j : Int) ≤ n) (fun j => n.toNat - j) 0 (by omega) (by refine Sub.auto (by first | exact frok0 | assumption) rfl rfl ?_ ?_ <;> (try simp only [subE, AS.over2, without, keys, look, List.cons_append, List.nil_append, List.append_nil, List.mem_cons, List.not_mem_nil, or_false, or_true, true_or, false_or, Nat.reduceEqDiff, ↓reduceIte, Option.some.injEq, AV.lit.injEq, Value.int.injEq, Value.bool.injEq, AV.own.injEq, AO.row.injEq, AO.box.injEq, List.cons.injEq, AV.agg.injEq, AV.sl.injEq, true_and, and_true, and_self, heq_eq_eq, List.length_nil, List.length_cons, List.map_nil, List.take_zero, Int.natCast_add, Int.cast_ofNat_Int, Int.natCast_zero, List.length_append, List.length_map, List.length_take, Nat.zero_add]) <;> ((repeat' apply And.intro) <;> first | rfl | (simp [rgB, rgP]; done))) (fun j hj_8 L8 hLoop8 => ?_); have hl1 := rgB_len (p := p) (q := q) (g := g) (bh := bh) (m := m) (r := r) (n := n) (ks := ks) (k := j); have hl2 := rgP_len (p := p) (q := q) (g := g) (bh := bh) (m := m) (r := r) (n := n) (ks := ks) (k := j))
    | ((with_reducible refine seqQ_f ?_); refine hLoop8 (j + 1) _ (by omega) (by omega) ?_; (refine Sub.auto (by first | exact frok0 | assumption) rfl rfl ?_ ?_ <;> (try simp only [subE, AS.over2, without, keys, look, List.cons_append, List.nil_append, List.append_nil, List.mem_cons, List.not_mem_nil, or_false, or_true, true_or, false_or, Nat.reduceEqDiff, ↓reduceIte, Option.some.injEq, AV.lit.injEq, Value.int.injEq, Value.bool.injEq, AV.own.injEq, AO.row.injEq, AO.box.injEq, List.cons.injEq, AV.agg.injEq, AV.sl.injEq, true_and, and_true, and_self, heq_eq_eq, List.length_nil, List.length_cons, List.map_nil, List.take_zero, Int.natCast_add, Int.cast_ofNat_Int, Int.natCast_zero, List.length_append, List.length_map, List.length_take, Nat.zero_add]) <;> ((repeat' apply And.intro) <;> first | rfl | omega | exact hst1 | exact hst2 | (simp; done))))
    | ((with_reducible refine EndsAt_id ?_); (try subst_vars); (try simp only [rgB_len, rgP_len, hL, List.length_cons, List.length_nil, Nat.zero_add, Nat.reduceAdd, Bool.and_true, Bool.and_false, Bool.true_and, Bool.false_and, Bool.and_self, ↓reduceIte, Bool.false_eq_true, Bool.not_true, Bool.not_false, bne]); refine EndsAt.done [_, _] (by first | exact .inr rfl | exact .inl rfl) rfl rfl ?_ ?_ <;> first | decide | (repeat' (first | rfl | apply And.intro | trivial)))
    | (with_reducible refine AWp.seq ?_)⟩
noncomputable def c_rRange : Con0 := conF [(.pair .int (.pair .int .int)), (.pair .int (.list .int)), .int, .int, .int, (.list .int)] fun (⟨⟨p, q, g⟩, ⟨bh, bs⟩, m, r, n, ks, _⟩ : (Int × Int × Int) × (Int × List Int) × Int × Int × Int × (List Int) × Unit) => (M.Grp p q g ∧ (0 ≤ bh ∧ bh < p) ∧ (0 ≤ m ∧ m ≤ 65535) ∧ (0 ≤ r ∧ r < q) ∧ (1 ≤ n ∧ n ≤ 16) ∧ (ks.length : Int) = 4 * n - 1 ∧ ∀ x ∈ ks, 0 ≤ x ∧ x < q, .agg [.own 0 n.toNat, .own 1 n.toNat], [.row 3 .int (rgB p q g bh m r n ks n.toNat), .row 100 (.pair (.list .int) (.pair (.list .int) (.list .int))) (rgP p q g bh m r n ks n.toNat)])
noncomputable def G_rRange : List (FuncId × Con) := [(65, mk c_nMod), (90, mk c_pCommit), (91, mk c_rBit)]
theorem G_rRange_ok : ∀ f C, (f, C) ∈ G_rRange → C.ok Try.prog f := by
  intro f C h
  simp only [G_rRange, List.mem_cons, Prod.mk.injEq, List.not_mem_nil, or_false] at h
  rcases h with ⟨rfl, rfl⟩ | ⟨rfl, rfl⟩ | ⟨rfl, rfl⟩
  · exact ok_nMod
  · exact ok_pCommit
  · exact ok_rBit
set_option maxRecDepth 100000 in
set_option maxHeartbeats 4000000 in
theorem ok_rRange : (mk c_rRange).ok Try.prog 58 := okF (Θ := Th) (N := 96) (rs := [.cell 12 40]) Th_ok Try.func58 (by kernel_rfl) rfl Try.results58 (by decide) (by kernel_rfl) fun (⟨⟨p, q, g⟩, ⟨bh, bs⟩, m, r, n, ks, _⟩ : (Int × Int × Int) × (Int × List Int) × Int × Int × Int × (List Int) × Unit) => ⟨rfl, rfl, Nat.le_of_ble_eq_true rfl, fun hc w0 => by
  have hL := dmy_eq
  try dsimp only at hc
  try dsimp only
  obtain ⟨hG, hbb, hm, hr, hn, hkl, hks⟩ := hc
  have hq2 := hG.q2
  have hqp := hG.qp
  have hp3 := hG.p3
  have hpM := hG.pM
  have hgb : 0 ≤ g ∧ g < p := ⟨by have := hG.g2; omega, hG.gp⟩
  obtain ⟨l, hle⟩ : ∃ l, l = ks.take (n - 1).toNat := ⟨_, rfl⟩
  have hll : (l.length : Int) = n - 1 := by rw [hle, List.length_take]; omega
  have hlb : ∀ x ∈ l, 0 ≤ x ∧ x < q := fun x hx => hks x (by rw [hle] at hx; exact List.mem_of_mem_take hx)
  have hrsl := rsL_len (q := q) (r := r) hn.1 hkl
  have hrsb := rsL_bd (n := n) hq2 hr hks
  replace hL := And.intro hle.symm hL
  refine AWp.body rfl ?_
  repeat' first
    | ((with_reducible refine hK _ _ ?_); clear hK K)
    | ((with_reducible refine hK _ _ (by kernel_rfl) ?_); clear hK K)
    | ((with_reducible refine AWp.pS Th_ok G_rRange_ok [0, 1, 2, 3, 4, 5, 6, 7, 12, 13, 14, 15, 16, 17, 27, 49] (by decide) ?_); intro K hK)
    | ((with_reducible refine AWp.dS (by kernel_rfl) Th_ok G_rRange_ok [0, 1, 2, 3, 4, 5, 6, 7, 12, 13, 14, 15, 16, 17, 27, 49] ?_); intro K hK)
    | ((with_reducible refine AWp.pE Th_ok G_rRange_ok [0, 1, 2, 3, 4, 5, 6, 7, 12, 13, 14, 15, 16, 17, 27, 49] (by decide) ?_); intro K hK)
    | ((with_reducible refine AWp.dE (by kernel_rfl) Th_ok G_rRange_ok [0, 1, 2, 3, 4, 5, 6, 7, 12, 13, 14, 15, 16, 17, 27, 49] ?_); intro K hK)
    | ((first | with_reducible refine runF_id ?_ | with_reducible refine stepF_id ?_); simp (maxSteps := 2000000) only [runF, stepF, forkOf, gdOf, List.toList_toArray, stepOp, look, opAV, pureOp, callOp, memOp, AS.ev, AS.get, AS.obj, initS, initFrom, AV.cells, AS.upd, Option.bind_some, Option.bind_none, Option.map_some, Option.map_none, Option.getD_none, Option.getD_some, ↓reduceIte, Nat.reduceEqDiff, Nat.reduceAdd, Nat.reduceMul, Nat.reduceSub, List.nil_append, List.append_nil, List.cons_append, List.map_cons, List.map_nil, true_and, and_true, AS.fin, pick, dedup, List.mem_cons, List.not_mem_nil, or_false, false_or, List.size_toArray, List.length_cons, List.length_nil, loadAV, List.drop_zero, List.drop_succ_cons, List.take_zero, List.take_succ_cons, List.getElem?_cons_zero, List.getElem?_cons_succ, List.head?_cons, List.mapM_cons, List.mapM_nil, Option.bind_eq_bind, Option.pure_def, deeps3, deep3, deep2, deep1, deeps, deeps2, mixInts, AV.plain, mk, mkD, DCon.lift, DCon.runC, ren3, ren2, ren1, numb, List.zipIdx_nil, List.zipIdx_cons, List.all_nil, List.all_cons, Nat.reduceLeDiff, List.range, List.range.loop, Ty.sz, beq_self_eq_true, Bool.and_self, and_self, Ty.ofC, AO.isDead, Nat.reduceLT, if_true, Nat.zero_add, Nat.add_zero, ite_true, Nat.le_refl, Bool.false_eq_true, reduceCtorEq, if_false, ite_false, binAV, AO.ren, AV.isCell, fillAV, List.set_cons_zero, List.set_cons_succ, Ty.cells, Ty.flat, Ty.dflt, List.getD_cons_zero, List.getD_cons_succ, Int.reduceToNat, Int.reduceSub, Int.reduceAdd, Int.reduceMul, Int.reduceNeg, forall_eq_or_imp, forall_eq, gdL, id_eq, Nat.lt_irrefl, srcOf, List.replicate_succ, List.replicate_zero, dite_true, List.isEmpty_cons, Option.isSome_some, List.length_append, List.length_singleton, bne_self_eq_false, Bool.not_true, Bool.not_false, conF, asArgs, asArg, asTy, asI1, asB1, asS1, asL1, canons, canon, Fork.true_, Fork.false_, bne, Bool.not_not, List.length_map, pickO, AS.over, TI.bl, bne_iff_ne, AS.over2, without, keys, List.mem_singleton, memOp2, memOp3, absorb, abInt, abBool, abStr, abList, gones, Int.toNat_natCast, List.take_length, subE, List.nodup_cons, List.nodup_nil, not_false_eq_true, Nat.sub_self, conR, asG, asI, asBo, asStr, asIs, asBs, asE4, asI2, asI3, asLL, asLLL, Th_int, Th_Sint, Th_bool, Th_implBases, Th_implGroup, Th_implRangeProof, Th_implSProof, Th_implSTranscript, Th_implTranscript, Th_lawsBases, Th_lawsGroup, Th_lawsRangeProof, Th_uint, G_rRange, c_nMod, c_pCommit, c_rBit, hL])
    | ((with_reducible refine ens_step ?_ (fun hE => ?_)); · ((repeat' with_reducible apply And.intro) <;> first | with_reducible assumption | omega | exact True.intro | with_reducible rfl | (show ByteArray.size _ ≤ _; decide) | (simp; done) | (simp; omega) | rfl))
    | ((with_reducible refine And.intro ?_ ?_); · ((repeat' with_reducible apply And.intro) <;> first | with_reducible assumption | omega | exact True.intro | with_reducible rfl | (show ByteArray.size _ ≤ _; decide) | (simp; done) | (simp; omega) | rfl))
    | ((with_reducible refine Fork.intro (fun h' => ?_) (fun h' => ?_)) <;> (try simp only [Bool.not_eq_true', Bool.not_eq_false', bne] at h') <;> (replace hL := And.intro h' hL) <;> (try simp only [decide_eq_true_eq, decide_eq_false_iff_not, beq_iff_eq, beq_eq_false_iff_ne, ne_eq] at h') <;> (try (have hlk := getD_bd' hlb (k := k) (by omega); have hpk := pow_sm (k := k + 1) (by omega); have hrk := r0F_bd (l := l) hq2 hr k; have hmb := mul_bd (a := 1 * 2 ^ (k + 1)) (b := l.getD k 0) (by omega) (by omega); have hme := emod_bd (n := 1 * 2 ^ (k + 1) * l.getD k 0) (q := q) (by omega); have hse : (r0F q r l k - (1 * 2 ^ (k + 1) * l.getD k 0) % q) % q = r0F q r l (k + 1) := sub_mod_r; have hse2 : (r0F q r l k - 1 * 2 ^ (k + 1) * l.getD k 0) % q = r0F q r l (k + 1) := rfl; have hk1 : ((k : Int) + 1).toNat = k + 1 := (by omega); replace hL := And.intro hse (And.intro hse2 (And.intro hk1 hL)))) <;> (try (have hke : k = l.length := (by omega); subst hke; have hrs : r0F q r l l.length :: l = rsL q r n ks := (by subst hle; rfl); replace hL := And.intro hrs hL)) <;> (try (have hjr := getD_bd' hrsb (k := j) (by omega); have hjs := shr_bd (m := m) (k := j) hm.1; have hjb := bit01 (m / 2 ^ j); have hjc := cut3_len (k := j) hn.1 hkl (by omega); have hjd := cut3_bd (n := n) (k := j) hks; have hce : (ks.drop (n - 1 + 3 * (j : Int)).toNat).take 3 = cut3 ks n j := rfl; have hcf := cut3_eq (ks := ks) (n := n) (k := j) hn.1; have hst1 := rgB_step (p := p) (q := q) (g := g) (bh := bh) (m := m) (r := r) (n := n) (ks := ks) (k := j); have hst2 := rgP_step (p := p) (q := q) (g := g) (bh := bh) (m := m) (r := r) (n := n) (ks := ks) (k := j); have hpl := prBit_len (p := p) (q := q) (g := g) (bh := bh) (m := m / 2 ^ j % 2) (r := (rsL q r n ks).getD j 0) (k0 := (cut3 ks n j).getD 0 0) (k1 := (cut3 ks n j).getD 1 0) (k2 := (cut3 ks n j).getD 2 0); obtain ⟨hp1, hp2, hp3'⟩ := hpl; replace hL := And.intro hce (And.intro hcf hL))) <;> (try (have hje : j = n.toNat := (by omega); subst hje)))
    | (with_reducible refine AWp.skipS ?_)
    | ((with_reducible refine AWp.condT rfl ?_))
    | ((with_reducible refine AWp.condF rfl ?_))
    | (with_reducible refine AWp.condB rfl ?_)
    | (with_reducible refine AWp.ret ?_)
    | (with_reducible refine seqQ_n ?_)
    | (with_reducible refine seqQ_ret ?_)
    | (with_reducible refine blkQ_ret ?_)
    | (with_reducible refine blkQ_n ?_)
    | (with_reducible refine seqQ_exit ?_)
    | (with_reducible refine blkQ_exit ?_)
    | (with_reducible refine blkQ_other (by decide) ?_)
    | (with_reducible refine AWp.block ?_)
    | (with_reducible refine AWp.exit ?_)
    | (with_reducible refine AWp.skip ?_)
    | ((with_reducible refine loop_id ?_); refine AWp.loopAt 3 rfl ?_; refine AWp.loopO [14, 25, 26, 27, 28, 29, 30, 31, 32, 33, 34, 35, 36, 37, 38, 39, 40, 41, 42, 43, 44, 45, 46] (fun k => [(14, .lit (.int .i64 ((k : Nat) + 1)))]) (fun k => [(32, .row 3 .int (r0F q r l k :: l))]) (fun k => k ≤ l.length) (fun k => l.length - k) 0 (by omega) (by refine Sub.auto (by first | exact frok0 | assumption) rfl rfl ?_ ?_ <;> (try simp only [subE, AS.over2, without, keys, look, List.cons_append, List.nil_append, List.append_nil, List.mem_cons, List.not_mem_nil, or_false, or_true, true_or, false_or, Nat.reduceEqDiff, ↓reduceIte, Option.some.injEq, AV.lit.injEq, Value.int.injEq, Value.bool.injEq, AV.own.injEq, AO.row.injEq, AO.box.injEq, List.cons.injEq, AV.agg.injEq, AV.sl.injEq, true_and, and_true, and_self, heq_eq_eq, List.length_nil, List.length_cons, List.map_nil, List.take_zero, Int.natCast_add, Int.cast_ofNat_Int, Int.natCast_zero, List.length_append, List.length_map, List.length_take, Nat.zero_add]) <;> ((repeat' apply And.intro) <;> first | rfl | (simp [r0F]; done) | omega)) (fun k hk_3 L3 hLoop3 => ?_))
    | ((with_reducible refine seqQ_f ?_); refine hLoop3 (k + 1) _ (by omega) (by omega) ?_; (refine Sub.auto (by first | exact frok0 | assumption) rfl rfl ?_ ?_ <;> (try simp only [subE, AS.over2, without, keys, look, List.cons_append, List.nil_append, List.append_nil, List.mem_cons, List.not_mem_nil, or_false, or_true, true_or, false_or, Nat.reduceEqDiff, ↓reduceIte, Option.some.injEq, AV.lit.injEq, Value.int.injEq, Value.bool.injEq, AV.own.injEq, AO.row.injEq, AO.box.injEq, List.cons.injEq, AV.agg.injEq, AV.sl.injEq, true_and, and_true, and_self, heq_eq_eq, List.length_nil, List.length_cons, List.map_nil, List.take_zero, Int.natCast_add, Int.cast_ofNat_Int, Int.natCast_zero, List.length_append, List.length_map, List.length_take, Nat.zero_add]) <;> ((repeat' apply And.intro) <;> first | rfl | omega)))
    | ((with_reducible refine loop_id ?_); refine AWp.loopAt 8 rfl ?_; refine AWp.sub (Sub.nilBox 120 0 300100 3 .int rfl rfl rfl) ?_; refine AWp.sub (Sub.nilBox 120 1 300101 100 (.pair (.list .int) (.pair (.list .int) (.list .int))) rfl rfl rfl) ?_; refine AWp.loopO [16, 17, 47, 48, 49, 50, 51, 52, 53, 54, 55, 56, 57, 58, 59, 60, 61, 62, 63, 64, 65, 66, 67, 68, 69, 70, 71, 72, 73, 74, 75, 76, 77, 78, 79, 80, 81, 82, 83, 84, 85, 86, 87, 88, 89, 90, 91, 92, 93, 94] (fun j => [(16, .lit (.int .i64 (j : Nat)))]) (fun j => [(120, .box 40 [.own 300100 j, .own 300101 j]), (300100, .row 3 .int (rgB p q g bh m r n ks j)), (300101, .row 100 (.pair (.list .int) (.pair (.list .int) (.list .int))) (rgP p q g bh m r n ks j))]) (fun j => (j : Int) ≤ n) (fun j => n.toNat - j) 0 (by omega) (by refine Sub.auto (by first | exact frok0 | assumption) rfl rfl ?_ ?_ <;> (try simp only [subE, AS.over2, without, keys, look, List.cons_append, List.nil_append, List.append_nil, List.mem_cons, List.not_mem_nil, or_false, or_true, true_or, false_or, Nat.reduceEqDiff, ↓reduceIte, Option.some.injEq, AV.lit.injEq, Value.int.injEq, Value.bool.injEq, AV.own.injEq, AO.row.injEq, AO.box.injEq, List.cons.injEq, AV.agg.injEq, AV.sl.injEq, true_and, and_true, and_self, heq_eq_eq, List.length_nil, List.length_cons, List.map_nil, List.take_zero, Int.natCast_add, Int.cast_ofNat_Int, Int.natCast_zero, List.length_append, List.length_map, List.length_take, Nat.zero_add]) <;> ((repeat' apply And.intro) <;> first | rfl | (simp [rgB, rgP]; done))) (fun j hj_8 L8 hLoop8 => ?_); have hl1 := rgB_len (p := p) (q := q) (g := g) (bh := bh) (m := m) (r := r) (n := n) (ks := ks) (k := j); have hl2 := rgP_len (p := p) (q := q) (g := g) (bh := bh) (m := m) (r := r) (n := n) (ks := ks) (k := j))
    | ((with_reducible refine seqQ_f ?_); refine hLoop8 (j + 1) _ (by omega) (by omega) ?_; (refine Sub.auto (by first | exact frok0 | assumption) rfl rfl ?_ ?_ <;> (try simp only [subE, AS.over2, without, keys, look, List.cons_append, List.nil_append, List.append_nil, List.mem_cons, List.not_mem_nil, or_false, or_true, true_or, false_or, Nat.reduceEqDiff, ↓reduceIte, Option.some.injEq, AV.lit.injEq, Value.int.injEq, Value.bool.injEq, AV.own.injEq, AO.row.injEq, AO.box.injEq, List.cons.injEq, AV.agg.injEq, AV.sl.injEq, true_and, and_true, and_self, heq_eq_eq, List.length_nil, List.length_cons, List.map_nil, List.take_zero, Int.natCast_add, Int.cast_ofNat_Int, Int.natCast_zero, List.length_append, List.length_map, List.length_take, Nat.zero_add]) <;> ((repeat' apply And.intro) <;> first | rfl | omega | exact hst1 | exact hst2 | (simp; done))))
    | ((with_reducible refine EndsAt_id ?_); (try subst_vars); (try simp only [rgB_len, rgP_len, hL, List.length_cons, List.length_nil, Nat.zero_add, Nat.reduceAdd, Bool.and_true, Bool.and_false, Bool.true_and, Bool.false_and, Bool.and_self, ↓reduceIte, Bool.false_eq_true, Bool.not_true, Bool.not_false, bne]); refine EndsAt.done [_, _] (by first | exact .inr rfl | exact .inl rfl) rfl rfl ?_ ?_ <;> first | decide | (repeat' (first | rfl | apply And.intro | trivial)))
    | (with_reducible refine AWp.seq ?_)⟩
theorem szn_leR {t : Ty} {a b : Nat} (xs : List t.den) (h1 : xs.length ≤ a) (h2 : ∀ x ∈ xs, t.szn x ≤ b) : Ty.szn (.list t) xs ≤ a + a * b := by
  have h3 : (xs.map t.szn).sum ≤ xs.length * b := by
    clear h1
    induction xs with
    | nil => simp
    | cons x l ih =>
      have e1 := ih fun y hy => h2 y (by simp [hy])
      have e2 := h2 x (by simp)
      simp only [List.map_cons, List.sum_cons, List.length_cons, Nat.succ_mul]
      omega
  have h4 : xs.length * b ≤ a * b := Nat.mul_le_mul_right _ h1
  show xs.length + (xs.map t.szn).sum ≤ _
  omega
theorem rgP_szn {p q g bh m r n : Int} {ks : List Int} {k : Nat} (hk : k ≤ 16) : Ty.szn (.list (.pair (.list .int) (.pair (.list .int) (.list .int)))) (rgP p q g bh m r n ks k) ≤ 112 := by
  refine szn_leR (t := (.pair (.list .int) (.pair (.list .int) (.list .int)))) (a := 16) (b := 6) _ (by rw [rgP_len]; exact hk) fun x hx => ?_
  obtain ⟨i, _, rfl⟩ := List.mem_map.1 hx
  have h := prBit_len (p := p) (q := q) (g := g) (bh := bh) (m := m / 2 ^ i % 2) (r := (rsL q r n ks).getD i 0) (k0 := (cut3 ks n i).getD 0 0) (k1 := (cut3 ks n i).getD 1 0) (k2 := (cut3 ks n i).getD 2 0)
  rw [szn_pl, szn_pl, szn_int, szn_int, szn_int]
  omega
noncomputable def okPg (p q g bh : Int) (bs : List Int) (m r n : Int) (ks : List Int) : Bool := l9B p q g bh bs && okRg q n && inr m 0 (1 * 2 ^ n.toNat - 1) && inr r 0 (q - 1) && ((ks.length : Int) == 4 * n - 1) && expsB q ks
noncomputable def PPg (p q g bh : Int) (bs : List Int) (m r n : Int) (ks : List Int) : List Int × List (List Int × List Int × List Int) := if okPg p q g bh bs m r n ks = true then (rgB p q g bh m r n ks n.toNat, rgP p q g bh m r n ks n.toNat) else ([], [])
theorem okPg_n {p q g bh : Int} {bs : List Int} {m r n : Int} {ks : List Int} (h : okPg p q g bh bs m r n ks = true) : 1 ≤ n ∧ n ≤ 16 := by
  simp only [okPg, Bool.and_eq_true] at h
  exact (okRg_use h.1.1.1.1.2).1
theorem PPg_le (p q g bh : Int) (bs : List Int) (m r n : Int) (ks : List Int) : (PPg p q g bh bs m r n ks).1.length ≤ 16 ∧ (PPg p q g bh bs m r n ks).2.length ≤ 16 ∧ Ty.szn (.list (.pair (.list .int) (.pair (.list .int) (.list .int)))) (PPg p q g bh bs m r n ks).2 ≤ 112 := by
  unfold PPg; split
  · rename_i h
    have := okPg_n h
    refine ⟨by rw [rgB_len]; omega, by rw [rgP_len]; omega, rgP_szn (by omega)⟩
  · exact ⟨Nat.zero_le _, Nat.zero_le _, Nat.zero_le _⟩
noncomputable def okIv (p q g bh : Int) (bs : List Int) (m r lo hi n : Int) (ks : List Int) : Bool := l9B p q g bh bs && okRg q n && expsB q [m, r, lo, hi] && inr (m - lo) 0 (1 * 2 ^ n.toNat - 1) && inr (hi - m) 0 (1 * 2 ^ n.toNat - 1) && ((ks.length : Int) == 2 * (4 * n - 1)) && expsB q ks
noncomputable def PIa (p q g bh : Int) (bs : List Int) (m r lo hi n : Int) (ks : List Int) : List Int × List (List Int × List Int × List Int) := if okIv p q g bh bs m r lo hi n ks = true then (rgB p q g bh (m - lo) r n (ks.take (4 * n - 1).toNat) n.toNat, rgP p q g bh (m - lo) r n (ks.take (4 * n - 1).toNat) n.toNat) else ([], [])
noncomputable def PIb (p q g bh : Int) (bs : List Int) (m r lo hi n : Int) (ks : List Int) : List Int × List (List Int × List Int × List Int) := if okIv p q g bh bs m r lo hi n ks = true then (rgB p q g bh (hi - m) (-r % q) n (ks.drop (4 * n - 1).toNat) n.toNat, rgP p q g bh (hi - m) (-r % q) n (ks.drop (4 * n - 1).toNat) n.toNat) else ([], [])
theorem okIv_n {p q g bh : Int} {bs : List Int} {m r lo hi n : Int} {ks : List Int} (h : okIv p q g bh bs m r lo hi n ks = true) : 1 ≤ n ∧ n ≤ 16 := by
  simp only [okIv, Bool.and_eq_true] at h
  exact (okRg_use h.1.1.1.1.1.2).1
theorem PIa_le (p q g bh : Int) (bs : List Int) (m r lo hi n : Int) (ks : List Int) : (PIa p q g bh bs m r lo hi n ks).1.length ≤ 16 ∧ (PIa p q g bh bs m r lo hi n ks).2.length ≤ 16 ∧ Ty.szn (.list (.pair (.list .int) (.pair (.list .int) (.list .int)))) (PIa p q g bh bs m r lo hi n ks).2 ≤ 112 := by
  unfold PIa; split
  · rename_i h
    have := okIv_n h
    refine ⟨by rw [rgB_len]; omega, by rw [rgP_len]; omega, rgP_szn (by omega)⟩
  · exact ⟨Nat.zero_le _, Nat.zero_le _, Nat.zero_le _⟩
theorem PIb_le (p q g bh : Int) (bs : List Int) (m r lo hi n : Int) (ks : List Int) : (PIb p q g bh bs m r lo hi n ks).1.length ≤ 16 ∧ (PIb p q g bh bs m r lo hi n ks).2.length ≤ 16 ∧ Ty.szn (.list (.pair (.list .int) (.pair (.list .int) (.list .int)))) (PIb p q g bh bs m r lo hi n ks).2 ≤ 112 := by
  unfold PIb; split
  · rename_i h
    have := okIv_n h
    refine ⟨by rw [rgB_len]; omega, by rw [rgP_len]; omega, rgP_szn (by omega)⟩
  · exact ⟨Nat.zero_le _, Nat.zero_le _, Nat.zero_le _⟩
noncomputable def c_ProveRangeI : Con0 := conF [(.pair .int (.pair .int .int)), (.pair .int (.list .int)), .int, .int, .int, (.list .int)] fun (⟨⟨p, q, g⟩, ⟨bh, bs⟩, m, r, n, ks, _⟩ : (Int × Int × Int) × (Int × List Int) × Int × Int × Int × (List Int) × Unit) => (True, .tup [.agg [.own 0 (PPg p q g bh bs m r n ks).1.length, .own 1 (PPg p q g bh bs m r n ks).2.length], .lit (.bool (okPg p q g bh bs m r n ks))], [.row 3 .int (PPg p q g bh bs m r n ks).1, .row 100 (.pair (.list .int) (.pair (.list .int) (.list .int))) (PPg p q g bh bs m r n ks).2])
noncomputable def G_ProveRangeI : List (FuncId × Con) := [(44, mk c_isValidBases), (46, mk c_isRange), (59, mk c_within), (60, mk c_isExp), (53, mk c_areExps), (61, mk c_proveRange)]
theorem G_ProveRangeI_ok : ∀ f C, (f, C) ∈ G_ProveRangeI → C.ok Try.prog f := by
  intro f C h
  simp only [G_ProveRangeI, List.mem_cons, Prod.mk.injEq, List.not_mem_nil, or_false] at h
  rcases h with ⟨rfl, rfl⟩ | ⟨rfl, rfl⟩ | ⟨rfl, rfl⟩ | ⟨rfl, rfl⟩ | ⟨rfl, rfl⟩ | ⟨rfl, rfl⟩
  · exact ok_isValidBases
  · exact ok_isRange
  · exact ok_within
  · exact ok_isExp
  · exact ok_areExps
  · exact ok_proveRange
set_option maxRecDepth 100000 in
set_option maxHeartbeats 4000000 in
theorem ok_ProveRangeI : (mk c_ProveRangeI).ok Try.prog 22 := okF (Θ := Th) (N := 61) (rs := [.cell 12 40, .tmp 13]) Th_ok Try.func22 (by kernel_rfl) rfl Try.results22 (by decide) (by kernel_rfl) fun (⟨⟨p, q, g⟩, ⟨bh, bs⟩, m, r, n, ks, _⟩ : (Int × Int × Int) × (Int × List Int) × Int × Int × Int × (List Int) × Unit) => ⟨rfl, rfl, Nat.le_of_ble_eq_true rfl, fun hc w0 => by
  have hL := dmy_eq
  try dsimp only at hc
  try dsimp only
  refine AWp.body rfl ?_
  repeat' first
    | ((with_reducible refine hK _ _ ?_); clear hK K)
    | ((with_reducible refine hK _ _ (by kernel_rfl) ?_); clear hK K)
    | ((with_reducible refine AWp.pS Th_ok G_ProveRangeI_ok [0, 1, 2, 3, 4, 5, 6, 7, 12, 13, 52] (by decide) ?_); intro K hK)
    | ((with_reducible refine AWp.dS (by kernel_rfl) Th_ok G_ProveRangeI_ok [0, 1, 2, 3, 4, 5, 6, 7, 12, 13, 52] ?_); intro K hK)
    | ((with_reducible refine AWp.pE Th_ok G_ProveRangeI_ok [0, 1, 2, 3, 4, 5, 6, 7, 12, 13, 52] (by decide) ?_); intro K hK)
    | ((with_reducible refine AWp.dE (by kernel_rfl) Th_ok G_ProveRangeI_ok [0, 1, 2, 3, 4, 5, 6, 7, 12, 13, 52] ?_); intro K hK)
    | ((first | with_reducible refine runF_id ?_ | with_reducible refine stepF_id ?_); simp (maxSteps := 2000000) only [runF, stepF, forkOf, gdOf, List.toList_toArray, stepOp, look, opAV, pureOp, callOp, memOp, AS.ev, AS.get, AS.obj, initS, initFrom, AV.cells, AS.upd, Option.bind_some, Option.bind_none, Option.map_some, Option.map_none, Option.getD_none, Option.getD_some, ↓reduceIte, Nat.reduceEqDiff, Nat.reduceAdd, Nat.reduceMul, Nat.reduceSub, List.nil_append, List.append_nil, List.cons_append, List.map_cons, List.map_nil, true_and, and_true, AS.fin, pick, dedup, List.mem_cons, List.not_mem_nil, or_false, false_or, List.size_toArray, List.length_cons, List.length_nil, loadAV, List.drop_zero, List.drop_succ_cons, List.take_zero, List.take_succ_cons, List.getElem?_cons_zero, List.getElem?_cons_succ, List.head?_cons, List.mapM_cons, List.mapM_nil, Option.bind_eq_bind, Option.pure_def, deeps3, deep3, deep2, deep1, deeps, deeps2, mixInts, AV.plain, mk, mkD, DCon.lift, DCon.runC, ren3, ren2, ren1, numb, List.zipIdx_nil, List.zipIdx_cons, List.all_nil, List.all_cons, Nat.reduceLeDiff, List.range, List.range.loop, Ty.sz, beq_self_eq_true, Bool.and_self, and_self, Ty.ofC, AO.isDead, Nat.reduceLT, if_true, Nat.zero_add, Nat.add_zero, ite_true, Nat.le_refl, Bool.false_eq_true, reduceCtorEq, if_false, ite_false, binAV, AO.ren, AV.isCell, fillAV, List.set_cons_zero, List.set_cons_succ, Ty.cells, Ty.flat, Ty.dflt, List.getD_cons_zero, List.getD_cons_succ, Int.reduceToNat, Int.reduceSub, Int.reduceAdd, Int.reduceMul, Int.reduceNeg, forall_eq_or_imp, forall_eq, gdL, id_eq, Nat.lt_irrefl, srcOf, List.replicate_succ, List.replicate_zero, dite_true, List.isEmpty_cons, Option.isSome_some, List.length_append, List.length_singleton, bne_self_eq_false, Bool.not_true, Bool.not_false, conF, asArgs, asArg, asTy, asI1, asB1, asS1, asL1, canons, canon, Fork.true_, Fork.false_, bne, Bool.not_not, List.length_map, pickO, AS.over, TI.bl, bne_iff_ne, AS.over2, without, keys, List.mem_singleton, memOp2, memOp3, absorb, abInt, abBool, abStr, abList, gones, Int.toNat_natCast, List.take_length, subE, List.nodup_cons, List.nodup_nil, not_false_eq_true, Nat.sub_self, conR, asG, asI, asBo, asStr, asIs, asBs, asE4, asI2, asI3, asLL, asLLL, Th_int, Th_Sint, Th_bool, Th_implBases, Th_implGroup, Th_implRangeProof, Th_implSProof, Th_implSTranscript, Th_lawsBases, Th_lawsGroup, Th_lawsRangeProof, Th_lawsSProof, Th_uint, G_ProveRangeI, c_isValidBases, c_isRange, c_within, c_isExp, c_areExps, c_proveRange, expsB_1, hL])
    | ((with_reducible refine ens_step ?_ (fun hE => ?_)); · ((repeat' with_reducible apply And.intro) <;> first | with_reducible assumption | omega | exact True.intro | with_reducible rfl | (show ByteArray.size _ ≤ _; decide) | (simp; done) | (simp; omega) | rfl))
    | ((with_reducible refine And.intro ?_ ?_); · ((repeat' with_reducible apply And.intro) <;> first | with_reducible assumption | omega | exact True.intro | with_reducible rfl | (show ByteArray.size _ ≤ _; decide) | (simp; done) | (simp; omega) | rfl))
    | ((with_reducible refine Fork.intro (fun h' => ?_) (fun h' => ?_)) <;> (try simp only [Bool.not_eq_true', Bool.not_eq_false', bne] at h') <;> (replace hL := And.intro h' hL) <;> (try simp only [decide_eq_true_eq, decide_eq_false_iff_not, beq_iff_eq, beq_eq_false_iff_ne, ne_eq] at h') <;> (try (have hl9 := l9B_useR h'; obtain ⟨hG, hbb, hq2, hqp, hp3, hpM, hgb⟩ := hl9)) <;> (try (have hok : okRg q n = true := h'; have hru := okRg_use hok; obtain ⟨hn, h2n⟩ := hru; have hp16 := pow16 hn)) <;> (try (have him := inr_t (n := m) h')) <;> (try (have hir := inr_t (n := r) h')) <;> (try (have hkl : (ks.length : Int) = 4 * n - 1 := h')) <;> (try (have hks := expsB_all12' (xs := ks) h')))
    | (with_reducible refine AWp.skipS ?_)
    | ((with_reducible refine AWp.condT rfl ?_))
    | ((with_reducible refine AWp.condF rfl ?_))
    | (with_reducible refine AWp.condB rfl ?_)
    | ((with_reducible refine AWp.ret_id ?_); refine AWp.sub (Sub.nilBox 16 0 100000 3 .int rfl rfl rfl) ?_)
    | ((with_reducible refine AWp.ret_id ?_); refine AWp.sub (Sub.nilBox 16 1 100001 100 (.pair (.list .int) (.pair (.list .int) (.list .int))) rfl rfl rfl) ?_)
    | (with_reducible refine AWp.ret ?_)
    | (with_reducible refine seqQ_n ?_)
    | (with_reducible refine seqQ_ret ?_)
    | (with_reducible refine blkQ_ret ?_)
    | (with_reducible refine blkQ_n ?_)
    | (with_reducible refine seqQ_exit ?_)
    | (with_reducible refine blkQ_exit ?_)
    | (with_reducible refine blkQ_other (by decide) ?_)
    | (with_reducible refine AWp.block ?_)
    | (with_reducible refine AWp.exit ?_)
    | (with_reducible refine AWp.skip ?_)
    | ((with_reducible refine EndsAt_id ?_); (try subst_vars); (try simp only [PPg, okPg, rgB_len, rgP_len, hL, List.length_cons, List.length_nil, Nat.zero_add, Nat.reduceAdd, Bool.and_true, Bool.and_false, Bool.true_and, Bool.false_and, Bool.and_self, ↓reduceIte, Bool.false_eq_true, Bool.not_true, Bool.not_false, bne]); refine EndsAt.done [_, _] (by first | exact .inr rfl | exact .inl rfl) rfl rfl ?_ ?_ <;> first | decide | (repeat' (first | rfl | apply And.intro | trivial)))
    | (with_reducible refine AWp.seq ?_)⟩
noncomputable def c_ProveRangeS : Con0 := conF [(.pair .int (.pair .int .int)), (.pair .int (.list .int)), .int, .int, .int, (.list .int)] fun (⟨⟨p, q, g⟩, ⟨bh, bs⟩, m, r, n, ks, _⟩ : (Int × Int × Int) × (Int × List Int) × Int × Int × Int × (List Int) × Unit) => (True, .tup [.agg [.own 0 (PPg p q g bh bs m r n ks).1.length, .own 1 (PPg p q g bh bs m r n ks).2.length], .lit (.bool (okPg p q g bh bs m r n ks))], [.row 3 .int (PPg p q g bh bs m r n ks).1, .row 100 (.pair (.list .int) (.pair (.list .int) (.list .int))) (PPg p q g bh bs m r n ks).2])
noncomputable def G_ProveRangeS : List (FuncId × Con) := [(39, mk c_l9Good), (40, mk c_rBits), (57, mk c_l1In), (49, mk c_gExps), (58, mk c_rRange)]
theorem G_ProveRangeS_ok : ∀ f C, (f, C) ∈ G_ProveRangeS → C.ok Try.prog f := by
  intro f C h
  simp only [G_ProveRangeS, List.mem_cons, Prod.mk.injEq, List.not_mem_nil, or_false] at h
  rcases h with ⟨rfl, rfl⟩ | ⟨rfl, rfl⟩ | ⟨rfl, rfl⟩ | ⟨rfl, rfl⟩ | ⟨rfl, rfl⟩
  · exact ok_l9Good
  · exact ok_rBits
  · exact ok_l1In
  · exact ok_gExps
  · exact ok_rRange
set_option maxRecDepth 100000 in
set_option maxHeartbeats 4000000 in
theorem ok_ProveRangeS : (mk c_ProveRangeS).ok Try.prog 20 := okF (Θ := Th) (N := 62) (rs := [.cell 12 40, .tmp 13]) Th_ok Try.func20 (by kernel_rfl) rfl Try.results20 (by decide) (by kernel_rfl) fun (⟨⟨p, q, g⟩, ⟨bh, bs⟩, m, r, n, ks, _⟩ : (Int × Int × Int) × (Int × List Int) × Int × Int × Int × (List Int) × Unit) => ⟨rfl, rfl, Nat.le_of_ble_eq_true rfl, fun hc w0 => by
  have hL := dmy_eq
  try dsimp only at hc
  try dsimp only
  refine AWp.body rfl ?_
  repeat' first
    | ((with_reducible refine hK _ _ ?_); clear hK K)
    | ((with_reducible refine hK _ _ (by kernel_rfl) ?_); clear hK K)
    | ((with_reducible refine AWp.pS Th_ok G_ProveRangeS_ok [0, 1, 2, 3, 4, 5, 6, 7, 12, 13, 53] (by decide) ?_); intro K hK)
    | ((with_reducible refine AWp.dS (by kernel_rfl) Th_ok G_ProveRangeS_ok [0, 1, 2, 3, 4, 5, 6, 7, 12, 13, 53] ?_); intro K hK)
    | ((with_reducible refine AWp.pE Th_ok G_ProveRangeS_ok [0, 1, 2, 3, 4, 5, 6, 7, 12, 13, 53] (by decide) ?_); intro K hK)
    | ((with_reducible refine AWp.dE (by kernel_rfl) Th_ok G_ProveRangeS_ok [0, 1, 2, 3, 4, 5, 6, 7, 12, 13, 53] ?_); intro K hK)
    | ((first | with_reducible refine runF_id ?_ | with_reducible refine stepF_id ?_); simp (maxSteps := 2000000) only [runF, stepF, forkOf, gdOf, List.toList_toArray, stepOp, look, opAV, pureOp, callOp, memOp, AS.ev, AS.get, AS.obj, initS, initFrom, AV.cells, AS.upd, Option.bind_some, Option.bind_none, Option.map_some, Option.map_none, Option.getD_none, Option.getD_some, ↓reduceIte, Nat.reduceEqDiff, Nat.reduceAdd, Nat.reduceMul, Nat.reduceSub, List.nil_append, List.append_nil, List.cons_append, List.map_cons, List.map_nil, true_and, and_true, AS.fin, pick, dedup, List.mem_cons, List.not_mem_nil, or_false, false_or, List.size_toArray, List.length_cons, List.length_nil, loadAV, List.drop_zero, List.drop_succ_cons, List.take_zero, List.take_succ_cons, List.getElem?_cons_zero, List.getElem?_cons_succ, List.head?_cons, List.mapM_cons, List.mapM_nil, Option.bind_eq_bind, Option.pure_def, deeps3, deep3, deep2, deep1, deeps, deeps2, mixInts, AV.plain, mk, mkD, DCon.lift, DCon.runC, ren3, ren2, ren1, numb, List.zipIdx_nil, List.zipIdx_cons, List.all_nil, List.all_cons, Nat.reduceLeDiff, List.range, List.range.loop, Ty.sz, beq_self_eq_true, Bool.and_self, and_self, Ty.ofC, AO.isDead, Nat.reduceLT, if_true, Nat.zero_add, Nat.add_zero, ite_true, Nat.le_refl, Bool.false_eq_true, reduceCtorEq, if_false, ite_false, binAV, AO.ren, AV.isCell, fillAV, List.set_cons_zero, List.set_cons_succ, Ty.cells, Ty.flat, Ty.dflt, List.getD_cons_zero, List.getD_cons_succ, Int.reduceToNat, Int.reduceSub, Int.reduceAdd, Int.reduceMul, Int.reduceNeg, forall_eq_or_imp, forall_eq, gdL, id_eq, Nat.lt_irrefl, srcOf, List.replicate_succ, List.replicate_zero, dite_true, List.isEmpty_cons, Option.isSome_some, List.length_append, List.length_singleton, bne_self_eq_false, Bool.not_true, Bool.not_false, conF, asArgs, asArg, asTy, asI1, asB1, asS1, asL1, canons, canon, Fork.true_, Fork.false_, bne, Bool.not_not, List.length_map, pickO, AS.over, TI.bl, bne_iff_ne, AS.over2, without, keys, List.mem_singleton, memOp2, memOp3, absorb, abInt, abBool, abStr, abList, gones, Int.toNat_natCast, List.take_length, subE, List.nodup_cons, List.nodup_nil, not_false_eq_true, Nat.sub_self, conR, asG, asI, asBo, asStr, asIs, asBs, asE4, asI2, asI3, asLL, asLLL, Th_int, Th_Sint, Th_bool, Th_implBases, Th_implGroup, Th_implRangeProof, Th_implSProof, Th_implSTranscript, Th_lawsBases, Th_lawsGroup, Th_lawsRangeProof, Th_lawsSProof, Th_uint, G_ProveRangeS, c_l9Good, c_rBits, c_l1In, c_gExps, c_rRange, expsB_1, hL])
    | ((with_reducible refine ens_step ?_ (fun hE => ?_)); · ((repeat' with_reducible apply And.intro) <;> first | with_reducible assumption | omega | exact True.intro | with_reducible rfl | (show ByteArray.size _ ≤ _; decide) | (simp; done) | (simp; omega) | rfl))
    | ((with_reducible refine And.intro ?_ ?_); · ((repeat' with_reducible apply And.intro) <;> first | with_reducible assumption | omega | exact True.intro | with_reducible rfl | (show ByteArray.size _ ≤ _; decide) | (simp; done) | (simp; omega) | rfl))
    | ((with_reducible refine Fork.intro (fun h' => ?_) (fun h' => ?_)) <;> (try simp only [Bool.not_eq_true', Bool.not_eq_false', bne] at h') <;> (replace hL := And.intro h' hL) <;> (try simp only [decide_eq_true_eq, decide_eq_false_iff_not, beq_iff_eq, beq_eq_false_iff_ne, ne_eq] at h') <;> (try (have hl9 := l9B_useR h'; obtain ⟨hG, hbb, hq2, hqp, hp3, hpM, hgb⟩ := hl9)) <;> (try (have hok : okRg q n = true := h'; have hru := okRg_use hok; obtain ⟨hn, h2n⟩ := hru; have hp16 := pow16 hn)) <;> (try (have him := inr_t (n := m) h')) <;> (try (have hir := inr_t (n := r) h')) <;> (try (have hkl : (ks.length : Int) = 4 * n - 1 := h')) <;> (try (have hks := expsB_all12' (xs := ks) h')))
    | (with_reducible refine AWp.skipS ?_)
    | ((with_reducible refine AWp.condT rfl ?_))
    | ((with_reducible refine AWp.condF rfl ?_))
    | (with_reducible refine AWp.condB rfl ?_)
    | ((with_reducible refine AWp.ret_id ?_); refine AWp.sub (Sub.nilBox 16 0 100000 3 .int rfl rfl rfl) ?_)
    | ((with_reducible refine AWp.ret_id ?_); refine AWp.sub (Sub.nilBox 16 1 100001 100 (.pair (.list .int) (.pair (.list .int) (.list .int))) rfl rfl rfl) ?_)
    | (with_reducible refine AWp.ret ?_)
    | (with_reducible refine seqQ_n ?_)
    | (with_reducible refine seqQ_ret ?_)
    | (with_reducible refine blkQ_ret ?_)
    | (with_reducible refine blkQ_n ?_)
    | (with_reducible refine seqQ_exit ?_)
    | (with_reducible refine blkQ_exit ?_)
    | (with_reducible refine blkQ_other (by decide) ?_)
    | (with_reducible refine AWp.block ?_)
    | (with_reducible refine AWp.exit ?_)
    | (with_reducible refine AWp.skip ?_)
    | ((with_reducible refine EndsAt_id ?_); (try subst_vars); (try simp only [PPg, okPg, rgB_len, rgP_len, hL, List.length_cons, List.length_nil, Nat.zero_add, Nat.reduceAdd, Bool.and_true, Bool.and_false, Bool.true_and, Bool.false_and, Bool.and_self, ↓reduceIte, Bool.false_eq_true, Bool.not_true, Bool.not_false, bne]); refine EndsAt.done [_, _] (by first | exact .inr rfl | exact .inl rfl) rfl rfl ?_ ?_ <;> first | decide | (repeat' (first | rfl | apply And.intro | trivial)))
    | (with_reducible refine AWp.seq ?_)⟩
noncomputable def c_ProveIntervalI : Con0 := conF [(.pair .int (.pair .int .int)), (.pair .int (.list .int)), .int, .int, .int, .int, .int, (.list .int)] fun (⟨⟨p, q, g⟩, ⟨bh, bs⟩, m, r, lo, hi, n, ks, _⟩ : (Int × Int × Int) × (Int × List Int) × Int × Int × Int × Int × Int × (List Int) × Unit) => (True, .tup [.agg [.own 0 (PIa p q g bh bs m r lo hi n ks).1.length, .own 1 (PIa p q g bh bs m r lo hi n ks).2.length], .agg [.own 2 (PIb p q g bh bs m r lo hi n ks).1.length, .own 3 (PIb p q g bh bs m r lo hi n ks).2.length], .lit (.bool (okIv p q g bh bs m r lo hi n ks))], [.row 3 .int (PIa p q g bh bs m r lo hi n ks).1, .row 100 (.pair (.list .int) (.pair (.list .int) (.list .int))) (PIa p q g bh bs m r lo hi n ks).2, .row 3 .int (PIb p q g bh bs m r lo hi n ks).1, .row 100 (.pair (.list .int) (.pair (.list .int) (.list .int))) (PIb p q g bh bs m r lo hi n ks).2])
noncomputable def G_ProveIntervalI : List (FuncId × Con) := [(44, mk c_isValidBases), (46, mk c_isRange), (53, mk c_areExps), (59, mk c_within), (61, mk c_proveRange), (66, mk c_exp)]
theorem G_ProveIntervalI_ok : ∀ f C, (f, C) ∈ G_ProveIntervalI → C.ok Try.prog f := by
  intro f C h
  simp only [G_ProveIntervalI, List.mem_cons, Prod.mk.injEq, List.not_mem_nil, or_false] at h
  rcases h with ⟨rfl, rfl⟩ | ⟨rfl, rfl⟩ | ⟨rfl, rfl⟩ | ⟨rfl, rfl⟩ | ⟨rfl, rfl⟩ | ⟨rfl, rfl⟩
  · exact ok_isValidBases
  · exact ok_isRange
  · exact ok_areExps
  · exact ok_within
  · exact ok_proveRange
  · exact ok_exp
set_option maxRecDepth 100000 in
set_option maxHeartbeats 4000000 in
theorem ok_ProveIntervalI : (mk c_ProveIntervalI).ok Try.prog 29 := okF (Θ := Th) (N := 107) (rs := [.cell 16 40, .cell 17 40, .tmp 18]) Th_ok Try.func29 (by kernel_rfl) rfl Try.results29 (by decide) (by kernel_rfl) fun (⟨⟨p, q, g⟩, ⟨bh, bs⟩, m, r, lo, hi, n, ks, _⟩ : (Int × Int × Int) × (Int × List Int) × Int × Int × Int × Int × Int × (List Int) × Unit) => ⟨rfl, rfl, Nat.le_of_ble_eq_true rfl, fun hc w0 => by
  have hL := dmy_eq
  try dsimp only at hc
  try dsimp only
  refine AWp.body rfl ?_
  repeat' first
    | ((with_reducible refine AWp.ret_id ?_); refine AWp.sub (Sub.nilBox 16 0 100000 3 .int rfl rfl rfl) ?_; refine AWp.sub (Sub.nilBox 16 1 100001 100 (.pair (.list .int) (.pair (.list .int) (.list .int))) rfl rfl rfl) ?_; refine AWp.sub (Sub.nilBox 24 0 100002 3 .int rfl rfl rfl) ?_; refine AWp.sub (Sub.nilBox 24 1 100003 100 (.pair (.list .int) (.pair (.list .int) (.list .int))) rfl rfl rfl) ?_; refine AWp.ret ?_)
    | ((with_reducible refine hK _ _ ?_); clear hK K)
    | ((with_reducible refine hK _ _ (by kernel_rfl) ?_); clear hK K)
    | ((with_reducible refine AWp.pS Th_ok G_ProveIntervalI_ok [0, 1, 2, 3, 4, 5, 6, 7, 8, 9, 16, 17, 18, 19, 76] (by decide) ?_); intro K hK)
    | ((with_reducible refine AWp.dS (by kernel_rfl) Th_ok G_ProveIntervalI_ok [0, 1, 2, 3, 4, 5, 6, 7, 8, 9, 16, 17, 18, 19, 76] ?_); intro K hK)
    | ((with_reducible refine AWp.pE Th_ok G_ProveIntervalI_ok [0, 1, 2, 3, 4, 5, 6, 7, 8, 9, 16, 17, 18, 19, 76] (by decide) ?_); intro K hK)
    | ((with_reducible refine AWp.dE (by kernel_rfl) Th_ok G_ProveIntervalI_ok [0, 1, 2, 3, 4, 5, 6, 7, 8, 9, 16, 17, 18, 19, 76] ?_); intro K hK)
    | ((first | with_reducible refine runF_id ?_ | with_reducible refine stepF_id ?_); simp (maxSteps := 2000000) only [runF, stepF, forkOf, gdOf, List.toList_toArray, stepOp, look, opAV, pureOp, callOp, memOp, AS.ev, AS.get, AS.obj, initS, initFrom, AV.cells, AS.upd, Option.bind_some, Option.bind_none, Option.map_some, Option.map_none, Option.getD_none, Option.getD_some, ↓reduceIte, Nat.reduceEqDiff, Nat.reduceAdd, Nat.reduceMul, Nat.reduceSub, List.nil_append, List.append_nil, List.cons_append, List.map_cons, List.map_nil, true_and, and_true, AS.fin, pick, dedup, List.mem_cons, List.not_mem_nil, or_false, false_or, List.size_toArray, List.length_cons, List.length_nil, loadAV, List.drop_zero, List.drop_succ_cons, List.take_zero, List.take_succ_cons, List.getElem?_cons_zero, List.getElem?_cons_succ, List.head?_cons, List.mapM_cons, List.mapM_nil, Option.bind_eq_bind, Option.pure_def, deeps3, deep3, deep2, deep1, deeps, deeps2, mixInts, AV.plain, mk, mkD, DCon.lift, DCon.runC, ren3, ren2, ren1, numb, List.zipIdx_nil, List.zipIdx_cons, List.all_nil, List.all_cons, Nat.reduceLeDiff, List.range, List.range.loop, Ty.sz, beq_self_eq_true, Bool.and_self, and_self, Ty.ofC, AO.isDead, Nat.reduceLT, if_true, Nat.zero_add, Nat.add_zero, ite_true, Nat.le_refl, Bool.false_eq_true, reduceCtorEq, if_false, ite_false, binAV, AO.ren, AV.isCell, fillAV, List.set_cons_zero, List.set_cons_succ, Ty.cells, Ty.flat, Ty.dflt, List.getD_cons_zero, List.getD_cons_succ, Int.reduceToNat, Int.reduceSub, Int.reduceAdd, Int.reduceMul, Int.reduceNeg, forall_eq_or_imp, forall_eq, gdL, id_eq, Nat.lt_irrefl, srcOf, List.replicate_succ, List.replicate_zero, dite_true, List.isEmpty_cons, Option.isSome_some, List.length_append, List.length_singleton, bne_self_eq_false, Bool.not_true, Bool.not_false, conF, asArgs, asArg, asTy, asI1, asB1, asS1, asL1, canons, canon, Fork.true_, Fork.false_, bne, Bool.not_not, List.length_map, pickO, AS.over, TI.bl, bne_iff_ne, AS.over2, without, keys, List.mem_singleton, memOp2, memOp3, absorb, abInt, abBool, abStr, abList, gones, Int.toNat_natCast, List.take_length, subE, List.nodup_cons, List.nodup_nil, not_false_eq_true, Nat.sub_self, conR, asG, asI, asBo, asStr, asIs, asBs, asE4, asI2, asI3, asLL, asLLL, Th_int, Th_Sint, Th_bool, Th_implBases, Th_implGroup, Th_implProof, Th_implRangeProof, Th_implSProof, Th_implSTranscript, Th_implTranscript, Th_lawsBases, Th_lawsGroup, Th_lawsProof, Th_lawsRangeProof, Th_lawsSProof, Th_string, Th_uint, G_ProveIntervalI, c_isValidBases, c_isRange, c_areExps, c_within, c_proveRange, c_exp, expsB_1, hL])
    | ((with_reducible refine ens_step ?_ (fun hE => ?_)); · ((repeat' with_reducible apply And.intro) <;> first | with_reducible assumption | omega | exact True.intro | with_reducible rfl | (show ByteArray.size _ ≤ _; decide) | (simp; done) | (simp; omega) | rfl))
    | ((with_reducible refine And.intro ?_ ?_); · ((repeat' with_reducible apply And.intro) <;> first | with_reducible assumption | omega | exact True.intro | with_reducible rfl | (show ByteArray.size _ ≤ _; decide) | (simp; done) | (simp; omega) | rfl))
    | ((with_reducible refine Fork.intro (fun h' => ?_) (fun h' => ?_)) <;> (try simp only [Bool.not_eq_true', Bool.not_eq_false', bne] at h') <;> (replace hL := And.intro h' hL) <;> (try simp only [decide_eq_true_eq, decide_eq_false_iff_not, beq_iff_eq, beq_eq_false_iff_ne, ne_eq] at h') <;> (try (have hl9 := l9B_useR h'; obtain ⟨hG, hbb, hq2, hqp, hp3, hpM, hgb⟩ := hl9)) <;> (try (have hok : okRg q n = true := h'; have hru := okRg_use hok; obtain ⟨hn, h2n⟩ := hru; have hp16 := pow16 hn)) <;> (try (have hx4 : (0 ≤ m ∧ m < q) ∧ (0 ≤ r ∧ r < q) ∧ (0 ≤ lo ∧ lo < q) ∧ (0 ≤ hi ∧ hi < q) := ⟨expsB_mem h' (by simp), expsB_mem h' (by simp), expsB_mem h' (by simp), expsB_mem h' (by simp)⟩; obtain ⟨hx1, hx2, hx3, hx4'⟩ := hx4; have hrm := emod_bd (n := -r) (q := q) (by omega))) <;> (try (have hi1 := inr_t (n := m - lo) h')) <;> (try (have hi2 := inr_t (n := hi - m) h')) <;> (try (have hkl : (ks.length : Int) = 2 * (4 * n - 1) := h'; have htl : ((ks.take (4 * n - 1).toNat).length : Int) = 4 * n - 1 := (by rw [List.length_take]; omega); have hdl : ((ks.drop (4 * n - 1).toNat).length : Int) = 4 * n - 1 := (by rw [List.length_drop]; omega))) <;> (try (have hks := expsB_all12' (xs := ks) h'; have hks1 : ∀ x ∈ ks.take (4 * n - 1).toNat, 0 ≤ x ∧ x < q := fun x hx => hks x (List.mem_of_mem_take hx); have hks2 : ∀ x ∈ ks.drop (4 * n - 1).toNat, 0 ≤ x ∧ x < q := fun x hx => hks x (List.mem_of_mem_drop hx))))
    | (with_reducible refine AWp.skipS ?_)
    | ((with_reducible refine AWp.condT rfl ?_))
    | ((with_reducible refine AWp.condF rfl ?_))
    | (with_reducible refine AWp.condB rfl ?_)
    | (with_reducible refine AWp.ret ?_)
    | (with_reducible refine seqQ_n ?_)
    | (with_reducible refine seqQ_ret ?_)
    | (with_reducible refine blkQ_ret ?_)
    | (with_reducible refine blkQ_n ?_)
    | (with_reducible refine seqQ_exit ?_)
    | (with_reducible refine blkQ_exit ?_)
    | (with_reducible refine blkQ_other (by decide) ?_)
    | (with_reducible refine AWp.block ?_)
    | (with_reducible refine AWp.exit ?_)
    | (with_reducible refine AWp.skip ?_)
    | ((with_reducible refine EndsAt_id ?_); (try subst_vars); (try simp only [PIa, PIb, okIv, rgB_len, rgP_len, hL, List.length_cons, List.length_nil, Nat.zero_add, Nat.reduceAdd, Bool.and_true, Bool.and_false, Bool.true_and, Bool.false_and, Bool.and_self, ↓reduceIte, Bool.false_eq_true, Bool.not_true, Bool.not_false, bne]); refine EndsAt.done [_, _, _, _] (by first | exact .inr rfl | exact .inl rfl) rfl rfl ?_ ?_ <;> first | decide | (repeat' (first | rfl | apply And.intro | trivial)))
    | (with_reducible refine AWp.seq ?_)⟩
noncomputable def c_ProveIntervalS : Con0 := conF [(.pair .int (.pair .int .int)), (.pair .int (.list .int)), .int, .int, .int, .int, .int, (.list .int)] fun (⟨⟨p, q, g⟩, ⟨bh, bs⟩, m, r, lo, hi, n, ks, _⟩ : (Int × Int × Int) × (Int × List Int) × Int × Int × Int × Int × Int × (List Int) × Unit) => (True, .tup [.agg [.own 0 (PIa p q g bh bs m r lo hi n ks).1.length, .own 1 (PIa p q g bh bs m r lo hi n ks).2.length], .agg [.own 2 (PIb p q g bh bs m r lo hi n ks).1.length, .own 3 (PIb p q g bh bs m r lo hi n ks).2.length], .lit (.bool (okIv p q g bh bs m r lo hi n ks))], [.row 3 .int (PIa p q g bh bs m r lo hi n ks).1, .row 100 (.pair (.list .int) (.pair (.list .int) (.list .int))) (PIa p q g bh bs m r lo hi n ks).2, .row 3 .int (PIb p q g bh bs m r lo hi n ks).1, .row 100 (.pair (.list .int) (.pair (.list .int) (.list .int))) (PIb p q g bh bs m r lo hi n ks).2])
noncomputable def G_ProveIntervalS : List (FuncId × Con) := [(39, mk c_l9Good), (40, mk c_rBits), (49, mk c_gExps), (57, mk c_l1In), (58, mk c_rRange), (65, mk c_nMod)]
theorem G_ProveIntervalS_ok : ∀ f C, (f, C) ∈ G_ProveIntervalS → C.ok Try.prog f := by
  intro f C h
  simp only [G_ProveIntervalS, List.mem_cons, Prod.mk.injEq, List.not_mem_nil, or_false] at h
  rcases h with ⟨rfl, rfl⟩ | ⟨rfl, rfl⟩ | ⟨rfl, rfl⟩ | ⟨rfl, rfl⟩ | ⟨rfl, rfl⟩ | ⟨rfl, rfl⟩
  · exact ok_l9Good
  · exact ok_rBits
  · exact ok_gExps
  · exact ok_l1In
  · exact ok_rRange
  · exact ok_nMod
set_option maxRecDepth 100000 in
set_option maxHeartbeats 4000000 in
theorem ok_ProveIntervalS : (mk c_ProveIntervalS).ok Try.prog 28 := okF (Θ := Th) (N := 107) (rs := [.cell 16 40, .cell 17 40, .tmp 18]) Th_ok Try.func28 (by kernel_rfl) rfl Try.results28 (by decide) (by kernel_rfl) fun (⟨⟨p, q, g⟩, ⟨bh, bs⟩, m, r, lo, hi, n, ks, _⟩ : (Int × Int × Int) × (Int × List Int) × Int × Int × Int × Int × Int × (List Int) × Unit) => ⟨rfl, rfl, Nat.le_of_ble_eq_true rfl, fun hc w0 => by
  have hL := dmy_eq
  try dsimp only at hc
  try dsimp only
  have h82 : (8 * n - 2 : Int) = 2 * (4 * n - 1) := by omega
  replace hL := And.intro h82 hL
  refine AWp.body rfl ?_
  repeat' first
    | ((with_reducible refine AWp.ret_id ?_); refine AWp.sub (Sub.nilBox 16 0 100000 3 .int rfl rfl rfl) ?_; refine AWp.sub (Sub.nilBox 16 1 100001 100 (.pair (.list .int) (.pair (.list .int) (.list .int))) rfl rfl rfl) ?_; refine AWp.sub (Sub.nilBox 24 0 100002 3 .int rfl rfl rfl) ?_; refine AWp.sub (Sub.nilBox 24 1 100003 100 (.pair (.list .int) (.pair (.list .int) (.list .int))) rfl rfl rfl) ?_; refine AWp.ret ?_)
    | ((with_reducible refine hK _ _ ?_); clear hK K)
    | ((with_reducible refine hK _ _ (by kernel_rfl) ?_); clear hK K)
    | ((with_reducible refine AWp.pS Th_ok G_ProveIntervalS_ok [0, 1, 2, 3, 4, 5, 6, 7, 8, 9, 16, 17, 18, 74] (by decide) ?_); intro K hK)
    | ((with_reducible refine AWp.dS (by kernel_rfl) Th_ok G_ProveIntervalS_ok [0, 1, 2, 3, 4, 5, 6, 7, 8, 9, 16, 17, 18, 74] ?_); intro K hK)
    | ((with_reducible refine AWp.pE Th_ok G_ProveIntervalS_ok [0, 1, 2, 3, 4, 5, 6, 7, 8, 9, 16, 17, 18, 74] (by decide) ?_); intro K hK)
    | ((with_reducible refine AWp.dE (by kernel_rfl) Th_ok G_ProveIntervalS_ok [0, 1, 2, 3, 4, 5, 6, 7, 8, 9, 16, 17, 18, 74] ?_); intro K hK)
    | ((first | with_reducible refine runF_id ?_ | with_reducible refine stepF_id ?_); simp (maxSteps := 2000000) only [runF, stepF, forkOf, gdOf, List.toList_toArray, stepOp, look, opAV, pureOp, callOp, memOp, AS.ev, AS.get, AS.obj, initS, initFrom, AV.cells, AS.upd, Option.bind_some, Option.bind_none, Option.map_some, Option.map_none, Option.getD_none, Option.getD_some, ↓reduceIte, Nat.reduceEqDiff, Nat.reduceAdd, Nat.reduceMul, Nat.reduceSub, List.nil_append, List.append_nil, List.cons_append, List.map_cons, List.map_nil, true_and, and_true, AS.fin, pick, dedup, List.mem_cons, List.not_mem_nil, or_false, false_or, List.size_toArray, List.length_cons, List.length_nil, loadAV, List.drop_zero, List.drop_succ_cons, List.take_zero, List.take_succ_cons, List.getElem?_cons_zero, List.getElem?_cons_succ, List.head?_cons, List.mapM_cons, List.mapM_nil, Option.bind_eq_bind, Option.pure_def, deeps3, deep3, deep2, deep1, deeps, deeps2, mixInts, AV.plain, mk, mkD, DCon.lift, DCon.runC, ren3, ren2, ren1, numb, List.zipIdx_nil, List.zipIdx_cons, List.all_nil, List.all_cons, Nat.reduceLeDiff, List.range, List.range.loop, Ty.sz, beq_self_eq_true, Bool.and_self, and_self, Ty.ofC, AO.isDead, Nat.reduceLT, if_true, Nat.zero_add, Nat.add_zero, ite_true, Nat.le_refl, Bool.false_eq_true, reduceCtorEq, if_false, ite_false, binAV, AO.ren, AV.isCell, fillAV, List.set_cons_zero, List.set_cons_succ, Ty.cells, Ty.flat, Ty.dflt, List.getD_cons_zero, List.getD_cons_succ, Int.reduceToNat, Int.reduceSub, Int.reduceAdd, Int.reduceMul, Int.reduceNeg, forall_eq_or_imp, forall_eq, gdL, id_eq, Nat.lt_irrefl, srcOf, List.replicate_succ, List.replicate_zero, dite_true, List.isEmpty_cons, Option.isSome_some, List.length_append, List.length_singleton, bne_self_eq_false, Bool.not_true, Bool.not_false, conF, asArgs, asArg, asTy, asI1, asB1, asS1, asL1, canons, canon, Fork.true_, Fork.false_, bne, Bool.not_not, List.length_map, pickO, AS.over, TI.bl, bne_iff_ne, AS.over2, without, keys, List.mem_singleton, memOp2, memOp3, absorb, abInt, abBool, abStr, abList, gones, Int.toNat_natCast, List.take_length, subE, List.nodup_cons, List.nodup_nil, not_false_eq_true, Nat.sub_self, conR, asG, asI, asBo, asStr, asIs, asBs, asE4, asI2, asI3, asLL, asLLL, Th_int, Th_Sint, Th_bool, Th_implBases, Th_implGroup, Th_implProof, Th_implRangeProof, Th_implSProof, Th_implSTranscript, Th_implTranscript, Th_lawsBases, Th_lawsGroup, Th_lawsProof, Th_lawsRangeProof, Th_lawsSProof, Th_string, Th_uint, G_ProveIntervalS, c_l9Good, c_rBits, c_gExps, c_l1In, c_rRange, c_nMod, expsB_1, hL])
    | ((with_reducible refine ens_step ?_ (fun hE => ?_)); · ((repeat' with_reducible apply And.intro) <;> first | with_reducible assumption | omega | exact True.intro | with_reducible rfl | (show ByteArray.size _ ≤ _; decide) | (simp; done) | (simp; omega) | rfl))
    | ((with_reducible refine And.intro ?_ ?_); · ((repeat' with_reducible apply And.intro) <;> first | with_reducible assumption | omega | exact True.intro | with_reducible rfl | (show ByteArray.size _ ≤ _; decide) | (simp; done) | (simp; omega) | rfl))
    | ((with_reducible refine Fork.intro (fun h' => ?_) (fun h' => ?_)) <;> (try simp only [Bool.not_eq_true', Bool.not_eq_false', bne] at h') <;> (replace hL := And.intro h' hL) <;> (try simp only [decide_eq_true_eq, decide_eq_false_iff_not, beq_iff_eq, beq_eq_false_iff_ne, ne_eq] at h') <;> (try (have hl9 := l9B_useR h'; obtain ⟨hG, hbb, hq2, hqp, hp3, hpM, hgb⟩ := hl9)) <;> (try (have hok : okRg q n = true := h'; have hru := okRg_use hok; obtain ⟨hn, h2n⟩ := hru; have hp16 := pow16 hn)) <;> (try (have hx4 : (0 ≤ m ∧ m < q) ∧ (0 ≤ r ∧ r < q) ∧ (0 ≤ lo ∧ lo < q) ∧ (0 ≤ hi ∧ hi < q) := ⟨expsB_mem h' (by simp), expsB_mem h' (by simp), expsB_mem h' (by simp), expsB_mem h' (by simp)⟩; obtain ⟨hx1, hx2, hx3, hx4'⟩ := hx4; have hrm := emod_bd (n := -r) (q := q) (by omega))) <;> (try (have hi1 := inr_t (n := m - lo) h')) <;> (try (have hi2 := inr_t (n := hi - m) h')) <;> (try (have hkl : (ks.length : Int) = 2 * (4 * n - 1) := h'; have htl : ((ks.take (4 * n - 1).toNat).length : Int) = 4 * n - 1 := (by rw [List.length_take]; omega); have hdl : ((ks.drop (4 * n - 1).toNat).length : Int) = 4 * n - 1 := (by rw [List.length_drop]; omega))) <;> (try (have hks := expsB_all12' (xs := ks) h'; have hks1 : ∀ x ∈ ks.take (4 * n - 1).toNat, 0 ≤ x ∧ x < q := fun x hx => hks x (List.mem_of_mem_take hx); have hks2 : ∀ x ∈ ks.drop (4 * n - 1).toNat, 0 ≤ x ∧ x < q := fun x hx => hks x (List.mem_of_mem_drop hx))))
    | (with_reducible refine AWp.skipS ?_)
    | ((with_reducible refine AWp.condT rfl ?_))
    | ((with_reducible refine AWp.condF rfl ?_))
    | (with_reducible refine AWp.condB rfl ?_)
    | (with_reducible refine AWp.ret ?_)
    | (with_reducible refine seqQ_n ?_)
    | (with_reducible refine seqQ_ret ?_)
    | (with_reducible refine blkQ_ret ?_)
    | (with_reducible refine blkQ_n ?_)
    | (with_reducible refine seqQ_exit ?_)
    | (with_reducible refine blkQ_exit ?_)
    | (with_reducible refine blkQ_other (by decide) ?_)
    | (with_reducible refine AWp.block ?_)
    | (with_reducible refine AWp.exit ?_)
    | (with_reducible refine AWp.skip ?_)
    | ((with_reducible refine EndsAt_id ?_); (try subst_vars); (try simp only [PIa, PIb, okIv, rgB_len, rgP_len, hL, List.length_cons, List.length_nil, Nat.zero_add, Nat.reduceAdd, Bool.and_true, Bool.and_false, Bool.true_and, Bool.false_and, Bool.and_self, ↓reduceIte, Bool.false_eq_true, Bool.not_true, Bool.not_false, bne]); refine EndsAt.done [_, _, _, _] (by first | exact .inr rfl | exact .inl rfl) rfl rfl ?_ ?_ <;> first | decide | (repeat' (first | rfl | apply And.intro | trivial)))
    | (with_reducible refine AWp.seq ?_)⟩
end Go.Proofs.Ytgnnmifpfgpllaa
