import Derived.Test.YtjapjmhifoeogaaZMath6
import Derived.Test.YtjapjmhifoeogaaZD21
/- Counted shares on both sides. -/
set_option linter.all false
set_option linter.unusedVariables false
set_option linter.unusedSimpArgs false
namespace Go.Proofs.Ytjapjmhifoeogaa
open Go.RowKit
theorem EndsW.bool {Θ : TypeId → Option TI} {rs : List ResultVar} {z z' : Bool} {rows : List AO} {pin : AO} {e : Exit} {σ : AS} (he : e = .normal ∨ e = .ret) (hres : resAV Θ σ rs = some (.lit (.bool z))) (hz : z = z') (hrows : endsW σ 1000001 rows) (hpin : σ.obj 1000000 = pin) : EndsW Θ rs (.bool z') rows pin e σ :=
  ⟨he, by rw [hres, hz], fun i ob h => endsW_get hrows i ob h, hpin⟩
theorem nxt_len {q : Int} : ∀ (i : Nat) (xs : List Int), (nxt q xs i).1.length = xs.length
  | 0, _ => rfl
  | i + 1, xs => by
    rw [nxt]; split
    · simp
    · rw [nxt_len i]; simp
theorem nxt_t {q : Int} {xs : List Int} {i : Nat} (h : xs.getD i 0 < q - 1) : nxt q xs (i + 1) = (xs.set i (xs.getD i 0 + 1), true) := by rw [nxt, if_pos h]
theorem nxt_f {q : Int} {xs : List Int} {i : Nat} (h : ¬ xs.getD i 0 < q - 1) : nxt q xs (i + 1) = nxt q (xs.set i 0) i := by rw [nxt, if_neg h]
def sel_w_sNext : List AV → Option (List Nat × (Nat × Int))
  | [.own o n, .lit (.int .i64 k)] => some ([o], (n, k))
  | _ => none
noncomputable def F_w_sNext : Nat × Int → HR [.int] → Prop × Value × HR [.int] := fun a d => ((d.1.length = a.1 ∧ a.1 ≤ 100) ∧ (2 ≤ a.2 ∧ a.2 ≤ 2000000000) ∧ ∀ x ∈ d.1, 0 ≤ x ∧ x < a.2, .bool (nxt a.2 d.1 a.1).2, ((nxt a.2 d.1 a.1).1, ()))
noncomputable def c_w_sNext : Con := Con.wr [.int] sel_w_sNext F_w_sNext
noncomputable def G_w_sNext : List (FuncId × Con) := []
theorem G_w_sNext_ok : ∀ f C, (f, C) ∈ G_w_sNext → C.ok Try.prog f := by
  intro f C h
  simp only [G_w_sNext, List.mem_cons, Prod.mk.injEq, List.not_mem_nil, or_false] at h
set_option maxRecDepth 100000 in
set_option maxHeartbeats 4000000 in
theorem ok_w_sNext : c_w_sNext.ok Try.prog 77 := okW (Θ := Th) (N := 29) (rs := [.tmp 4]) Th_ok Try.func77 (by kernel_rfl) rfl Try.results77 (by decide) (by kernel_rfl) (fun a => [.own 0 a.1, .lit (.int .i64 a.2)]) (fun args l aa h => by unfold sel_w_sNext at h; split at h <;> cases h; rfl) (fun aa => ⟨rfl, Nat.le_of_ble_eq_true rfl⟩) (fun aa es d hc i ob ob' h1 h2 => by obtain ⟨e, _⟩ := es; obtain ⟨xs, _⟩ := d; cases i with | zero => simp [rowsAO, F_w_sNext] at h1 h2; subst h1 h2; simp [AO.len, nxt_len] | succ i => simp [rowsAO] at h1) fun aa es0 d hc w0 pin hfr => by
  obtain ⟨n0, k0⟩ := aa
  obtain ⟨e0, _⟩ := es0
  obtain ⟨xs0, _⟩ := d
  dsimp only [F_w_sNext] at hc ⊢
  obtain ⟨⟨hl0, hn0⟩, ⟨hq2, hqM⟩, hb0⟩ := hc
  replace hl0 : xs0.length = n0 := hl0
  replace hb0 : ∀ x ∈ xs0, 0 ≤ x ∧ x < k0 := hb0
  have hL := dmy_eq
  refine AWp.body rfl ?_
  repeat' first
    | ((with_reducible refine hK _ _ ?_); clear hK K)
    | ((with_reducible refine hK _ _ (by kernel_rfl) ?_); clear hK K)
    | ((with_reducible refine AWp.pS Th_ok G_w_sNext_ok [0, 1, 4, 5, 10, 19] (by decide) ?_); intro K hK)
    | ((with_reducible refine AWp.dS (by kernel_rfl) Th_ok G_w_sNext_ok [0, 1, 4, 5, 10, 19] ?_); intro K hK)
    | ((with_reducible refine AWp.pE Th_ok G_w_sNext_ok [0, 1, 4, 5, 10, 19] (by decide) ?_); intro K hK)
    | ((with_reducible refine AWp.dE (by kernel_rfl) Th_ok G_w_sNext_ok [0, 1, 4, 5, 10, 19] ?_); intro K hK)
    | ((first | with_reducible refine runF_id ?_ | with_reducible refine stepF_id ?_); simp (maxSteps := 2000000) only [runF, stepF, forkOf, gdOf, List.toList_toArray, stepOp, look, opAV, pureOp, callOp, memOp, AS.ev, AS.get, AS.obj, initS, initFrom, AV.cells, AS.upd, Option.bind_some, Option.bind_none, Option.map_some, Option.map_none, Option.getD_none, Option.getD_some, ↓reduceIte, Nat.reduceEqDiff, Nat.reduceAdd, Nat.reduceMul, Nat.reduceSub, List.nil_append, List.append_nil, List.cons_append, List.map_cons, List.map_nil, true_and, and_true, AS.fin, pick, dedup, List.mem_cons, List.not_mem_nil, or_false, false_or, List.size_toArray, List.length_cons, List.length_nil, loadAV, List.drop_zero, List.drop_succ_cons, List.take_zero, List.take_succ_cons, List.getElem?_cons_zero, List.getElem?_cons_succ, List.head?_cons, List.mapM_cons, List.mapM_nil, Option.bind_eq_bind, Option.pure_def, deeps3, deep3, deep2, deep1, deeps, deeps2, mixInts, AV.plain, mk, mkD, DCon.lift, DCon.runC, ren3, ren2, ren1, numb, List.zipIdx_nil, List.zipIdx_cons, List.all_nil, List.all_cons, Nat.reduceLeDiff, List.range, List.range.loop, Ty.sz, beq_self_eq_true, Bool.and_self, and_self, Ty.ofC, AO.isDead, Nat.reduceLT, if_true, Nat.zero_add, Nat.add_zero, ite_true, Nat.le_refl, Bool.false_eq_true, reduceCtorEq, if_false, ite_false, binAV, AO.ren, AV.isCell, fillAV, List.set_cons_zero, List.set_cons_succ, Ty.cells, Ty.flat, Ty.dflt, List.getD_cons_zero, List.getD_cons_succ, Int.reduceToNat, Int.reduceSub, Int.reduceAdd, Int.reduceMul, Int.reduceNeg, forall_eq_or_imp, forall_eq, gdL, id_eq, Nat.lt_irrefl, srcOf, List.replicate_succ, List.replicate_zero, dite_true, List.isEmpty_cons, Option.isSome_some, List.length_append, List.length_singleton, bne_self_eq_false, Bool.not_true, Bool.not_false, conF, asArgs, asArg, asTy, asI1, asB1, asS1, asL1, canons, canon, Fork.true_, Fork.false_, bne, Bool.not_not, List.length_map, pickO, AS.over, TI.bl, bne_iff_ne, AS.over2, without, keys, List.mem_singleton, memOp2, memOp3, absorb, abInt, abBool, abStr, abList, gones, Int.toNat_natCast, List.take_length, subE, List.nodup_cons, List.nodup_nil, not_false_eq_true, Nat.sub_self, conR, asG, asI, asBo, asStr, asIs, asBs, asE4, asI2, asI3, asLL, asLLL, Th_int, Th_Sint, Th_implGroup, Th_lawsEqualLog, Th_lawsGroup, Th_string, G_w_sNext, initW, wnum, rowsAO, ren2, ren1, List.map_cons, List.map_nil, hL])
    | ((with_reducible refine ens_step ?_ (fun hE => ?_)); · ((repeat' with_reducible apply And.intro) <;> first | with_reducible assumption | omega | exact True.intro | with_reducible rfl | (show ByteArray.size _ ≤ _; decide) | (simp; done) | (simp; omega) | rfl))
    | ((with_reducible refine And.intro ?_ ?_); · ((repeat' with_reducible apply And.intro) <;> first | with_reducible assumption | omega | exact True.intro | with_reducible rfl | (show ByteArray.size _ ≤ _; decide) | (simp; done) | (simp; omega) | rfl))
    | ((with_reducible refine Fork.intro (fun h' => ?_) (fun h' => ?_)) <;> (try simp only [Bool.not_eq_true', Bool.not_eq_false', bne] at h') <;> (replace hL := And.intro h' hL) <;> (try simp only [decide_eq_true_eq, decide_eq_false_iff_not, beq_iff_eq, beq_eq_false_iff_ne, ne_eq] at h') <;> (try (have hkp : 0 < k := (by omega); obtain ⟨j, rfl⟩ : ∃ j, k = j + 1 := ⟨k - 1, by omega⟩; have hj : ((j + 1 : Nat) : Int) - 1 = j := (by omega); replace hL := And.intro hj hL; have hjb := getD_bd' hz4 (k := j) (by omega))) <;> (try (have hnt := nxt_t h'; rw [hnt] at hz2; have hz2a := congrArg Prod.fst hz2; have hz2b := congrArg Prod.snd hz2; dsimp only at hz2a hz2b)) <;> (try (have hnf := nxt_f h'; rw [hnf] at hz2; have hsb := set_bd (j := j) (v := 0) hz4 (by omega))) <;> (try (have hk0 : k = 0 := (by omega); subst hk0; have hz2a := congrArg Prod.fst hz2; have hz2b := congrArg Prod.snd hz2; dsimp only [nxt] at hz2a hz2b)))
    | (with_reducible refine AWp.skipS ?_)
    | ((with_reducible refine AWp.condT rfl ?_))
    | ((with_reducible refine AWp.condF rfl ?_))
    | (with_reducible refine AWp.condB rfl ?_)
    | (with_reducible refine AWp.ret ?_)
    | (with_reducible refine seqQ_n ?_)
    | (with_reducible refine seqQ_ret ?_)
    | (with_reducible refine blkQ_ret ?_)
    | (with_reducible refine blkQ_n ?_)
    | (with_reducible refine seqQ_exit ?_)
    | (with_reducible refine blkQ_exit ?_)
    | (with_reducible refine blkQ_other (by decide) ?_)
    | (with_reducible refine AWp.block ?_)
    | (with_reducible refine AWp.exit ?_)
    | (with_reducible refine AWp.skip ?_)
    | ((with_reducible refine loop_id ?_); refine AWp.loopAt 2 rfl ?_; refine AWp.loopO [4, 5, 9, 10, 11, 12, 13, 14, 15, 16, 17, 18, 19, 20, 21, 22, 23, 24, 25, 26, 27, 28] (fun z : Nat × List Int => [(5, .lit (.int .i64 (((z.1 : Nat) : Int) - 1)))]) (fun z => [(1000001, .row e0 .int z.2)]) (fun z => z.1 ≤ n0 ∧ nxt k0 z.2 z.1 = nxt k0 xs0 n0 ∧ z.2.length = n0 ∧ (∀ x ∈ z.2, 0 ≤ x ∧ x < k0)) (fun z => z.1) (n0, xs0) (by (try dsimp only); exact ⟨by omega, rfl, hl0, hb0⟩) (by (refine Sub.auto (by first | exact frok0 | assumption) rfl rfl ?_ ?_ <;> (try simp only [subE, AS.over2, without, keys, look, List.cons_append, List.nil_append, List.append_nil, List.mem_cons, List.not_mem_nil, or_false, or_true, true_or, false_or, Nat.reduceEqDiff, ↓reduceIte, Option.some.injEq, AV.lit.injEq, Value.int.injEq, Value.bool.injEq, AV.own.injEq, AO.row.injEq, AO.box.injEq, List.cons.injEq, AV.agg.injEq, AV.sl.injEq, true_and, and_true, and_self, heq_eq_eq, List.length_nil, List.length_cons, List.map_nil, List.take_zero, Int.natCast_add, Int.cast_ofNat_Int, Int.natCast_zero, List.length_append, List.length_map, List.length_take, Nat.zero_add]) <;> ((repeat' apply And.intro) <;> first | rfl | (simp [hl0]; done) | omega))) (fun z hz2 L2 hLoop2 => ?_); obtain ⟨k, xs⟩ := z; (try dsimp only at hz2); obtain ⟨hz1, hz2, hz3, hz4⟩ := hz2)
    | ((with_reducible refine seqQ_f ?_); refine hLoop2 (j, xs.set j 0) _ (by (try dsimp only); exact ⟨by omega, hz2, by rw [List.length_set]; exact hz3, hsb⟩) (by (try dsimp only); omega) ?_; ((refine Sub.auto (by first | exact frok0 | assumption) rfl rfl ?_ ?_ <;> (try simp only [subE, AS.over2, without, keys, look, List.cons_append, List.nil_append, List.append_nil, List.mem_cons, List.not_mem_nil, or_false, or_true, true_or, false_or, Nat.reduceEqDiff, ↓reduceIte, Option.some.injEq, AV.lit.injEq, Value.int.injEq, Value.bool.injEq, AV.own.injEq, AO.row.injEq, AO.box.injEq, List.cons.injEq, AV.agg.injEq, AV.sl.injEq, true_and, and_true, and_self, heq_eq_eq, List.length_nil, List.length_cons, List.map_nil, List.take_zero, Int.natCast_add, Int.cast_ofNat_Int, Int.natCast_zero, List.length_append, List.length_map, List.length_take, Nat.zero_add]) <;> ((repeat' apply And.intro) <;> first | rfl | omega | (simp; done)))))
    | (with_reducible refine AWp.seq ?_)
    | ((with_reducible refine EndsW_id ?_); refine EndsW.bool (by first | exact .inr rfl | exact .inl rfl) rfl ?_ ?_ rfl <;> first | exact hz2b | (simp only [rowsAO, endsW, AS.obj, look, Nat.reduceEqDiff, ↓reduceIte, Option.getD_some, and_true]; rw [← hz2a]))
noncomputable def okP (q : Int) (ss l : List Int) (k : Nat) : Bool := (List.range k).all fun i => evL q ((i : Int) + 1) l == ss.getD i 0
theorem okP_t {q : Int} {ss l : List Int} {k : Nat} (h : okP q ss l k = true) : okP q ss l (k + 1) = (evL q ((k : Int) + 1) l == ss.getD k 0) := by
  unfold okP at *
  rw [List.range_succ, List.all_append, h]; simp
theorem okP_f {q : Int} {ss l : List Int} {k : Nat} (h : okP q ss l k = false) : okP q ss l (k + 1) = false := by
  unfold okP at *
  rw [List.range_succ, List.all_append, h]; rfl
noncomputable def rdg (q t n : Nat) : List Int := (digs q t n).reverse
noncomputable def talA (q t : Int) (ss : List Int) (n : Nat) : List Int := tal q.toNat (fun l => okP q ss l ss.length) (digs q.toNat t.toNat) n
noncomputable def talB (q t : Int) (ss : List Int) (n : Nat) : List Int := tal q.toNat (fun l => okP q ss l ss.length) (rdg q.toNat t.toNat) n
section
variable {q t : Int} {ss : List Int} {n : Nat}
theorem tal_tt {Q : Nat} {ok : List Int → Bool} {D : Nat → List Int} (h : ok (D n) = true) : tal Q ok D (n + 1) = (tal Q ok D n).set ((D n).getD 0 0).toNat ((tal Q ok D n).getD ((D n).getD 0 0).toNat 0 + 1) := by rw [tal, if_pos h]; rfl
theorem tal_ff {Q : Nat} {ok : List Int → Bool} {D : Nat → List Int} (h : ok (D n) = false) : tal Q ok D (n + 1) = tal Q ok D n := by rw [tal, if_neg (by rw [h]; decide)]
theorem talA_t (h : okP q ss (digs q.toNat t.toNat n) ss.length = true) : talA q t ss (n + 1) = (talA q t ss n).set ((digs q.toNat t.toNat n).getD 0 0).toNat ((talA q t ss n).getD ((digs q.toNat t.toNat n).getD 0 0).toNat 0 + 1) := tal_tt h
theorem talA_f (h : okP q ss (digs q.toNat t.toNat n) ss.length = false) : talA q t ss (n + 1) = talA q t ss n := tal_ff h
theorem talB_t (h : okP q ss (rdg q.toNat t.toNat n) ss.length = true) : talB q t ss (n + 1) = (talB q t ss n).set ((rdg q.toNat t.toNat n).getD 0 0).toNat ((talB q t ss n).getD ((rdg q.toNat t.toNat n).getD 0 0).toNat 0 + 1) := tal_tt h
theorem talB_f (h : okP q ss (rdg q.toNat t.toNat n) ss.length = false) : talB q t ss (n + 1) = talB q t ss n := tal_ff h
theorem talA_len : (talA q t ss n).length = q.toNat := tal_len n
theorem talB_len : (talB q t ss n).length = q.toNat := tal_len n
theorem digs_in (hq : 2 ≤ q) {T : Nat} : ∀ x ∈ digs q.toNat T n, 0 ≤ x ∧ x < q := fun x hx => by have := digs_bd (by omega) T n x hx; omega
theorem rdg_in (hq : 2 ≤ q) {T : Nat} : ∀ x ∈ rdg q.toNat T n, 0 ≤ x ∧ x < q := fun x hx => digs_in hq x (List.mem_reverse.1 hx)
theorem rdg_len {Q T : Nat} : (rdg Q T n).length = T := by unfold rdg; rw [List.length_reverse, digs_len]
theorem rdg_zero {Q T : Nat} : List.replicate T (0 : Int) = rdg Q T 0 := by unfold rdg; rw [digs_zero, List.reverse_replicate]
theorem hd_bd (hq : 2 ≤ q) {l : List Int} (hl : ∀ x ∈ l, 0 ≤ x ∧ x < q) (h1 : 1 ≤ l.length) : 0 ≤ l.getD 0 0 ∧ l.getD 0 0 < q := getD_bd' hl (by omega)
theorem talA_bd (hq : 2 ≤ q) {s : Nat} (hs : s < q.toNat) : 0 ≤ (talA q t ss n).getD s 0 ∧ (talA q t ss n).getD s 0 ≤ n := tal_bd (fun m => hdN_lt (by omega) (digs_bd (by omega) _ m)) hs
theorem talB_bd (hq : 2 ≤ q) {s : Nat} (hs : s < q.toNat) : 0 ≤ (talB q t ss n).getD s 0 ∧ (talB q t ss n).getD s 0 ≤ n := tal_bd (fun m => hdN_lt (by omega) fun x hx => digs_bd (by omega) _ m x (List.mem_reverse.1 hx)) hs
theorem talB_eq (hq : 2 ≤ q) : talB q t ss (q.toNat ^ t.toNat) = talA q t ss (q.toNat ^ t.toNat) := tal_eq (by omega)
theorem powQ (hq : 2 ≤ q ∧ q ≤ 23) {k : Nat} (hk : k ≤ 3) : ((q.toNat ^ k : Nat) : Int) * q = ((q.toNat ^ (k + 1) : Nat) : Int) ∧ q.toNat ^ (k + 1) ≤ 279841 ∧ 0 < q.toNat ^ k ∧ q.toNat ^ k ≤ 12167 := by
  refine ⟨?_, ?_, Nat.pow_pos (by omega), ?_⟩
  · rw [Nat.pow_succ, Int.natCast_mul, Int.toNat_of_nonneg (by omega)]
  · exact Nat.le_trans (Nat.pow_le_pow_left (by omega : q.toNat ≤ 23) _) (Nat.le_trans (Nat.pow_le_pow_right (by omega) (by omega : k + 1 ≤ 4)) (by decide))
  · exact Nat.le_trans (Nat.pow_le_pow_left (by omega : q.toNat ≤ 23) _) (Nat.le_trans (Nat.pow_le_pow_right (by omega) hk) (by decide))
theorem digs_sn (hq : 2 ≤ q) {k : Nat} : digs q.toNat k n ++ [((n / q.toNat ^ k : Nat) : Int) % q] = digs q.toNat (k + 1) n := by
  rw [← digs_snoc k n, Int.natCast_emod, Int.toNat_of_nonneg (by omega)]
theorem digs_dv (hq : 2 ≤ q) {k : Nat} : ((n / q.toNat ^ k : Nat) : Int) / q = ((n / q.toNat ^ (k + 1) : Nat) : Int) := by
  rw [Nat.pow_succ, ← Nat.div_div_eq_div_mul, Int.natCast_ediv (n / q.toNat ^ k), Int.toNat_of_nonneg (by omega)]
theorem nxt_inv (hq : 2 ≤ q) {T : Nat} (h : n < q.toNat ^ T) : ((nxt q (rdg q.toNat T n) T).2 = true → n + 1 < q.toNat ^ T ∧ (nxt q (rdg q.toNat T n) T).1 = rdg q.toNat T (n + 1)) ∧ ((nxt q (rdg q.toNat T n) T).2 = false → n + 1 = q.toNat ^ T) ∧ (nxt q (rdg q.toNat T n) T).1.length = T := by
  have hd := nxt_digs (q := q.toNat) (by omega) T n h
  rw [Int.toNat_of_nonneg (by omega)] at hd
  refine ⟨fun h2 => ?_, fun h2 => ?_, by rw [nxt_len, rdg_len]⟩
  · rcases Nat.lt_or_ge (n + 1) (q.toNat ^ T) with h3 | h3
    · exact ⟨h3, by have := hd.1 h3; unfold rdg; rw [this]⟩
    · have := hd.2 (by omega)
      unfold rdg at h2
      rw [this] at h2; cases h2
  · rcases Nat.lt_or_ge (n + 1) (q.toNat ^ T) with h3 | h3
    · have := hd.1 h3
      unfold rdg at h2
      rw [this] at h2; cases h2
    · omega
end
noncomputable def okSc (p q g t : Int) (ss : List Int) : Bool := !decide (23 < q) && shB p q g && inr t 1 3 && !decide (7 < (ss.length : Int)) && expsB q ss
noncomputable def PSc (p q g t : Int) (ss : List Int) : List Int := if okSc p q g t ss = true then talA q t ss (q.toNat ^ t.toNat) else []
theorem PSc_le (p q g t : Int) (ss : List Int) : (PSc p q g t ss).length ≤ 23 := by
  unfold PSc; split
  · rename_i h
    rw [talA_len]
    simp only [okSc, Bool.and_eq_true, Bool.not_eq_true', decide_eq_false_iff_not] at h
    omega
  · simp
noncomputable def c_ShareCountsI : Con0 := conF [(.pair .int (.pair .int .int)), .int, (.list .int)] fun (⟨⟨p, q, g⟩, t, ss, _⟩ : (Int × Int × Int) × Int × (List Int) × Unit) => (True, .tup [.own 0 (PSc p q g t ss).length, .lit (.bool (okSc p q g t ss))], [.row 3 .int (PSc p q g t ss)])
noncomputable def G_ShareCountsI : List (FuncId × Con) := [(79, mk c_isSharing), (73, mk c_within), (80, mk c_areExps), (81, mk c_evalPoly)]
theorem G_ShareCountsI_ok : ∀ f C, (f, C) ∈ G_ShareCountsI → C.ok Try.prog f := by
  intro f C h
  simp only [G_ShareCountsI, List.mem_cons, Prod.mk.injEq, List.not_mem_nil, or_false] at h
  rcases h with ⟨rfl, rfl⟩ | ⟨rfl, rfl⟩ | ⟨rfl, rfl⟩ | ⟨rfl, rfl⟩
  · exact ok_isSharing
  · exact ok_within
  · exact ok_areExps
  · exact ok_evalPoly
set_option maxRecDepth 100000 in
set_option maxHeartbeats 4000000 in
theorem ok_ShareCountsI : (mk c_ShareCountsI).ok Try.prog 26 := okF (Θ := Th) (N := 102) (rs := [.tmp 6, .tmp 7]) Th_ok Try.func26 (by kernel_rfl) rfl Try.results26 (by decide) (by kernel_rfl) fun (⟨⟨p, q, g⟩, t, ss, _⟩ : (Int × Int × Int) × Int × (List Int) × Unit) => ⟨rfl, rfl, Nat.le_of_ble_eq_true rfl, fun hc w0 => by
  have hL := dmy_eq
  try dsimp only at hc
  try dsimp only
  refine AWp.body rfl ?_
  repeat' first
    | ((with_reducible refine hK _ _ ?_); clear hK K)
    | ((with_reducible refine hK _ _ (by kernel_rfl) ?_); clear hK K)
    | ((with_reducible refine AWp.pS Th_ok G_ShareCountsI_ok [0, 1, 2, 3, 6, 7, 8, 9, 10, 11, 12, 13, 14, 15, 39, 43, 44, 45, 51, 52, 53, 60, 72, 73, 74, 75, 91] (by decide) ?_); intro K hK)
    | ((with_reducible refine AWp.dS (by kernel_rfl) Th_ok G_ShareCountsI_ok [0, 1, 2, 3, 6, 7, 8, 9, 10, 11, 12, 13, 14, 15, 39, 43, 44, 45, 51, 52, 53, 60, 72, 73, 74, 75, 91] ?_); intro K hK)
    | ((with_reducible refine AWp.pE Th_ok G_ShareCountsI_ok [0, 1, 2, 3, 6, 7, 8, 9, 10, 11, 12, 13, 14, 15, 39, 43, 44, 45, 51, 52, 53, 60, 72, 73, 74, 75, 91] (by decide) ?_); intro K hK)
    | ((with_reducible refine AWp.dE (by kernel_rfl) Th_ok G_ShareCountsI_ok [0, 1, 2, 3, 6, 7, 8, 9, 10, 11, 12, 13, 14, 15, 39, 43, 44, 45, 51, 52, 53, 60, 72, 73, 74, 75, 91] ?_); intro K hK)
    | ((first | with_reducible refine runF_id ?_ | with_reducible refine stepF_id ?_); simp (maxSteps := 2000000) only [runF, stepF, forkOf, gdOf, List.toList_toArray, stepOp, look, opAV, pureOp, callOp, memOp, AS.ev, AS.get, AS.obj, initS, initFrom, AV.cells, AS.upd, Option.bind_some, Option.bind_none, Option.map_some, Option.map_none, Option.getD_none, Option.getD_some, ↓reduceIte, Nat.reduceEqDiff, Nat.reduceAdd, Nat.reduceMul, Nat.reduceSub, List.nil_append, List.append_nil, List.cons_append, List.map_cons, List.map_nil, true_and, and_true, AS.fin, pick, dedup, List.mem_cons, List.not_mem_nil, or_false, false_or, List.size_toArray, List.length_cons, List.length_nil, loadAV, List.drop_zero, List.drop_succ_cons, List.take_zero, List.take_succ_cons, List.getElem?_cons_zero, List.getElem?_cons_succ, List.head?_cons, List.mapM_cons, List.mapM_nil, Option.bind_eq_bind, Option.pure_def, deeps3, deep3, deep2, deep1, deeps, deeps2, mixInts, AV.plain, mk, mkD, DCon.lift, DCon.runC, ren3, ren2, ren1, numb, List.zipIdx_nil, List.zipIdx_cons, List.all_nil, List.all_cons, Nat.reduceLeDiff, List.range, List.range.loop, Ty.sz, beq_self_eq_true, Bool.and_self, and_self, Ty.ofC, AO.isDead, Nat.reduceLT, if_true, Nat.zero_add, Nat.add_zero, ite_true, Nat.le_refl, Bool.false_eq_true, reduceCtorEq, if_false, ite_false, binAV, AO.ren, AV.isCell, fillAV, List.set_cons_zero, List.set_cons_succ, Ty.cells, Ty.flat, Ty.dflt, List.getD_cons_zero, List.getD_cons_succ, Int.reduceToNat, Int.reduceSub, Int.reduceAdd, Int.reduceMul, Int.reduceNeg, forall_eq_or_imp, forall_eq, gdL, id_eq, Nat.lt_irrefl, srcOf, List.replicate_succ, List.replicate_zero, dite_true, List.isEmpty_cons, Option.isSome_some, List.length_append, List.length_singleton, bne_self_eq_false, Bool.not_true, Bool.not_false, conF, asArgs, asArg, asTy, asI1, asB1, asS1, asL1, canons, canon, Fork.true_, Fork.false_, bne, Bool.not_not, List.length_map, pickO, AS.over, TI.bl, bne_iff_ne, AS.over2, without, keys, List.mem_singleton, memOp2, memOp3, absorb, abInt, abBool, abStr, abList, gones, Int.toNat_natCast, List.take_length, subE, List.nodup_cons, List.nodup_nil, not_false_eq_true, Nat.sub_self, conR, asG, asI, asBo, asStr, asIs, asBs, asE4, asI2, asI3, asLL, asLLL, Th_int, Th_Sint, Th_bool, Th_implBases, Th_implDealing, Th_implEqualLog, Th_implGroup, Th_implSDealing, Th_implSharedKey, Th_lawsDealing, Th_lawsEqualLog, Th_lawsGroup, Th_lawsSDealing, Th_lawsSharedKey, Th_string, G_ShareCountsI, c_isSharing, c_within, c_areExps, c_evalPoly, hL])
    | ((with_reducible refine ens_step ?_ (fun hE => ?_)); · ((repeat' with_reducible apply And.intro) <;> first | with_reducible assumption | omega | exact True.intro | with_reducible rfl | (show ByteArray.size _ ≤ _; decide) | (simp; done) | (simp; omega) | rfl))
    | ((with_reducible refine And.intro ?_ ?_); · ((repeat' with_reducible apply And.intro) <;> first | with_reducible assumption | omega | exact True.intro | with_reducible rfl | (show ByteArray.size _ ≤ _; decide) | (simp; done) | (simp; omega) | rfl))
    | ((with_reducible refine Fork.intro (fun h' => ?_) (fun h' => ?_)) <;> (try simp only [Bool.not_eq_true', Bool.not_eq_false', bne] at h') <;> (replace hL := And.intro h' hL) <;> (try simp only [decide_eq_true_eq, decide_eq_false_iff_not, beq_iff_eq, beq_eq_false_iff_ne, ne_eq] at h') <;> (try (have hsh := shB_of h'; obtain ⟨hgd, hq7⟩ := hsh; have hG := M.goodB_of hgd; have hq2 := hG.q2; have hqp := hG.qp; have hp3 := hG.p3; have hpM := hG.pM)) <;> (try (have hq23 : ¬ 23 < q := h')) <;> (try (have hin := inr_t h')) <;> (try (have hex := expsB_all12' h'; have hqq : 2 ≤ q ∧ q ≤ 23 := (by omega); have hpT := powQ hqq (k := t.toNat) (by omega); obtain ⟨_, _, hp3, hp4⟩ := hpT; have htt : ((t.toNat : Nat) : Int) = t := (by omega); have hqt : ((q.toNat : Nat) : Int) = q := (by omega))) <;> (try (have hkt : k = t.toNat := (by omega); subst hkt)) <;> (try (have hjs : j = ss.length := (by omega); subst hjs)) <;> (try (have hnq : n < (q.toNat ^ t.toNat) := (by omega); have hdi := digs_in (n := n) (T := t.toNat) hqq.1; have hdl := digs_len (q := q.toNat) t.toNat n; have hdh := hd_bd hqq.1 hdi (by omega); have htl := talA_len (q := q) (t := t) (ss := ss) (n := n); have htb := talA_bd (t := t) (ss := ss) (n := n) hqq.1 (s := ((digs q.toNat t.toNat n).getD 0 0).toNat) (by omega))) <;> (try (have hnq : n = (q.toNat ^ t.toNat) := (by omega); subst hnq)) <;> (try (have hpt := okP_t h')) <;> (try (have hpf := okP_f h')) <;> (try (have hta := (talA_t (n := n) h').symm)) <;> (try (have hta := (talA_f (n := n) h').symm)))
    | (with_reducible refine AWp.skipS ?_)
    | ((with_reducible refine AWp.condT rfl ?_))
    | ((with_reducible refine AWp.condF rfl ?_))
    | (with_reducible refine AWp.condB rfl ?_)
    | ((with_reducible refine AWp.ret_id ?_); refine AWp.sub (Sub.nilSlot 6 200006 3 .int rfl rfl) ?_)
    | (with_reducible refine AWp.ret ?_)
    | (with_reducible refine seqQ_n ?_)
    | (with_reducible refine seqQ_ret ?_)
    | (with_reducible refine blkQ_ret ?_)
    | (with_reducible refine blkQ_n ?_)
    | (with_reducible refine seqQ_exit ?_)
    | (with_reducible refine blkQ_exit ?_)
    | (with_reducible refine blkQ_other (by decide) ?_)
    | (with_reducible refine AWp.block ?_)
    | (with_reducible refine AWp.exit ?_)
    | (with_reducible refine AWp.skip ?_)
    | ((with_reducible refine loop_id ?_); refine AWp.loopAt 5 rfl ?_; refine AWp.loopO [9, 44, 45, 46, 47, 48, 49, 50] (fun k => [(44, .lit (.int .i64 (k : Nat))), (9, .lit (.int .i64 ((q.toNat ^ k : Nat) : Int)))]) (fun k => []) (fun k => k ≤ t.toNat) (fun k => t.toNat - k) 0 (by omega) (by refine Sub.auto (by first | exact frok0 | assumption) rfl rfl ?_ ?_ <;> (try simp only [subE, AS.over2, without, keys, look, List.cons_append, List.nil_append, List.append_nil, List.mem_cons, List.not_mem_nil, or_false, or_true, true_or, false_or, Nat.reduceEqDiff, ↓reduceIte, Option.some.injEq, AV.lit.injEq, Value.int.injEq, Value.bool.injEq, AV.own.injEq, AO.row.injEq, AO.box.injEq, List.cons.injEq, AV.agg.injEq, AV.sl.injEq, true_and, and_true, and_self, heq_eq_eq, List.length_nil, List.length_cons, List.map_nil, List.take_zero, Int.natCast_add, Int.cast_ofNat_Int, Int.natCast_zero, List.length_append, List.length_map, List.length_take, Nat.zero_add]) <;> ((repeat' apply And.intro) <;> first | rfl | (simp; done))) (fun k hk_5 L5 hLoop5 => ?_); have hpk := powQ hqq (k := k) (by omega); obtain ⟨hpk1, hpk2, hpk3, hpk4⟩ := hpk; replace hL := And.intro hpk1 hL)
    | ((with_reducible refine seqQ_f ?_); refine hLoop5 (k + 1) _ (by omega) (by omega) ?_; (refine Sub.auto (by first | exact frok0 | assumption) rfl rfl ?_ ?_ <;> (try simp only [subE, AS.over2, without, keys, look, List.cons_append, List.nil_append, List.append_nil, List.mem_cons, List.not_mem_nil, or_false, or_true, true_or, false_or, Nat.reduceEqDiff, ↓reduceIte, Option.some.injEq, AV.lit.injEq, Value.int.injEq, Value.bool.injEq, AV.own.injEq, AO.row.injEq, AO.box.injEq, List.cons.injEq, AV.agg.injEq, AV.sl.injEq, true_and, and_true, and_self, heq_eq_eq, List.length_nil, List.length_cons, List.map_nil, List.take_zero, Int.natCast_add, Int.cast_ofNat_Int, Int.natCast_zero, List.length_append, List.length_map, List.length_take, Nat.zero_add]) <;> ((repeat' apply And.intro) <;> first | rfl | omega | exact hpk1)))
    | ((with_reducible refine loop_id ?_); refine AWp.loopAt 9 rfl ?_; refine AWp.loopO [10, 11, 12, 13, 14, 15, 52, 53, 54, 55, 56, 57, 58, 59, 60, 61, 62, 63, 64, 65, 66, 67, 68, 69, 70, 71, 72, 73, 74, 75, 76, 77, 78, 79, 80, 81, 82, 83, 84, 85, 86, 87, 88, 89, 90, 91, 92, 93, 94, 95, 96, 97, 98, 99, 100] (fun n => [(52, .lit (.int .i64 (n : Nat)))]) (fun n => [(232, .row 3 .int (talA q t ss n))]) (fun n => n ≤ (q.toNat ^ t.toNat)) (fun n => (q.toNat ^ t.toNat) - n) 0 (by omega) (by refine Sub.auto (by first | exact frok0 | assumption) rfl rfl ?_ ?_ <;> (try simp only [subE, AS.over2, without, keys, look, List.cons_append, List.nil_append, List.append_nil, List.mem_cons, List.not_mem_nil, or_false, or_true, true_or, false_or, Nat.reduceEqDiff, ↓reduceIte, Option.some.injEq, AV.lit.injEq, Value.int.injEq, Value.bool.injEq, AV.own.injEq, AO.row.injEq, AO.box.injEq, List.cons.injEq, AV.agg.injEq, AV.sl.injEq, true_and, and_true, and_self, heq_eq_eq, List.length_nil, List.length_cons, List.map_nil, List.take_zero, Int.natCast_add, Int.cast_ofNat_Int, Int.natCast_zero, List.length_append, List.length_map, List.length_take, Nat.zero_add]) <;> ((repeat' apply And.intro) <;> first | rfl | (simp; done))) (fun n hn_9 L9 hLoop9 => ?_))
    | ((with_reducible refine seqQ_f ?_); refine hLoop9 (n + 1) _ (by omega) (by omega) ?_; (refine Sub.auto (by first | exact frok0 | assumption) rfl rfl ?_ ?_ <;> (try simp only [subE, AS.over2, without, keys, look, List.cons_append, List.nil_append, List.append_nil, List.mem_cons, List.not_mem_nil, or_false, or_true, true_or, false_or, Nat.reduceEqDiff, ↓reduceIte, Option.some.injEq, AV.lit.injEq, Value.int.injEq, Value.bool.injEq, AV.own.injEq, AO.row.injEq, AO.box.injEq, List.cons.injEq, AV.agg.injEq, AV.sl.injEq, true_and, and_true, and_self, heq_eq_eq, List.length_nil, List.length_cons, List.map_nil, List.take_zero, Int.natCast_add, Int.cast_ofNat_Int, Int.natCast_zero, List.length_append, List.length_map, List.length_take, Nat.zero_add]) <;> ((repeat' apply And.intro) <;> first | rfl | omega | exact hta)))
    | ((with_reducible refine loop_id ?_); refine AWp.loopAt 13 rfl ?_; refine AWp.loopO [11, 12, 57, 58, 59, 60, 61, 62, 63, 64, 65, 66, 67, 68, 69, 70, 71] (fun k => [(11, .own 320 k), (12, .lit (.int .i64 ((n / q.toNat ^ k : Nat) : Int)))]) (fun k => [(320, .row 3 .int (digs q.toNat k n))]) (fun k => k ≤ t.toNat) (fun k => t.toNat - k) 0 (by omega) (by refine Sub.auto (by first | exact frok0 | assumption) rfl rfl ?_ ?_ <;> (try simp only [subE, AS.over2, without, keys, look, List.cons_append, List.nil_append, List.append_nil, List.mem_cons, List.not_mem_nil, or_false, or_true, true_or, false_or, Nat.reduceEqDiff, ↓reduceIte, Option.some.injEq, AV.lit.injEq, Value.int.injEq, Value.bool.injEq, AV.own.injEq, AO.row.injEq, AO.box.injEq, List.cons.injEq, AV.agg.injEq, AV.sl.injEq, true_and, and_true, and_self, heq_eq_eq, List.length_nil, List.length_cons, List.map_nil, List.take_zero, Int.natCast_add, Int.cast_ofNat_Int, Int.natCast_zero, List.length_append, List.length_map, List.length_take, Nat.zero_add]) <;> ((repeat' apply And.intro) <;> first | rfl | (simp [digs]; done))) (fun k hk_13 L13 hLoop13 => ?_); have hsn := digs_sn (n := n) (k := k) hqq.1; have hdv := digs_dv (n := n) (k := k) hqq.1; have hdk := digs_len (q := q.toNat) k n; have hnb : n / q.toNat ^ k ≤ n := Nat.div_le_self _ _; have hnp : (0 : Int) ≤ ((n / q.toNat ^ k : Nat) : Int) := Int.natCast_nonneg _; have hnM : ((n / q.toNat ^ k : Nat) : Int) ≤ 9223372036854775807 := Int.le_trans (Int.ofNat_le.2 hnb) (by omega))
    | ((with_reducible refine seqQ_f ?_); refine hLoop13 (k + 1) _ (by omega) (by omega) ?_; (refine Sub.auto (by first | exact frok0 | assumption) rfl rfl ?_ ?_ <;> (try simp only [subE, AS.over2, without, keys, look, List.cons_append, List.nil_append, List.append_nil, List.mem_cons, List.not_mem_nil, or_false, or_true, true_or, false_or, Nat.reduceEqDiff, ↓reduceIte, Option.some.injEq, AV.lit.injEq, Value.int.injEq, Value.bool.injEq, AV.own.injEq, AO.row.injEq, AO.box.injEq, List.cons.injEq, AV.agg.injEq, AV.sl.injEq, true_and, and_true, and_self, heq_eq_eq, List.length_nil, List.length_cons, List.map_nil, List.take_zero, Int.natCast_add, Int.cast_ofNat_Int, Int.natCast_zero, List.length_append, List.length_map, List.length_take, Nat.zero_add]) <;> ((repeat' apply And.intro) <;> first | rfl | omega | exact hsn | exact hdv | (simp; done))))
    | ((with_reducible refine loop_id ?_); refine AWp.loopAt 18 rfl ?_; refine AWp.loopO [13, 14, 15, 74, 75, 76, 77, 78, 79, 80, 81, 82, 83, 84, 85, 86, 87, 88, 89, 90] (fun j => [(13, .lit (.bool (okP q ss (digs q.toNat t.toNat n) j))), (74, .lit (.int .i64 (j : Nat)))]) (fun j => []) (fun j => j ≤ ss.length) (fun j => ss.length - j) 0 (by omega) (by refine Sub.auto (by first | exact frok0 | assumption) rfl rfl ?_ ?_ <;> (try simp only [subE, AS.over2, without, keys, look, List.cons_append, List.nil_append, List.append_nil, List.mem_cons, List.not_mem_nil, or_false, or_true, true_or, false_or, Nat.reduceEqDiff, ↓reduceIte, Option.some.injEq, AV.lit.injEq, Value.int.injEq, Value.bool.injEq, AV.own.injEq, AO.row.injEq, AO.box.injEq, List.cons.injEq, AV.agg.injEq, AV.sl.injEq, true_and, and_true, and_self, heq_eq_eq, List.length_nil, List.length_cons, List.map_nil, List.take_zero, Int.natCast_add, Int.cast_ofNat_Int, Int.natCast_zero, List.length_append, List.length_map, List.length_take, Nat.zero_add]) <;> ((repeat' apply And.intro) <;> first | rfl | (simp [okP]; done))) (fun j hj_18 L18 hLoop18 => ?_))
    | ((with_reducible refine seqQ_f ?_); refine hLoop18 (j + 1) _ (by omega) (by omega) ?_; (refine Sub.auto (by first | exact frok0 | assumption) rfl rfl ?_ ?_ <;> (try simp only [subE, AS.over2, without, keys, look, List.cons_append, List.nil_append, List.append_nil, List.mem_cons, List.not_mem_nil, or_false, or_true, true_or, false_or, Nat.reduceEqDiff, ↓reduceIte, Option.some.injEq, AV.lit.injEq, Value.int.injEq, Value.bool.injEq, AV.own.injEq, AO.row.injEq, AO.box.injEq, List.cons.injEq, AV.agg.injEq, AV.sl.injEq, true_and, and_true, and_self, heq_eq_eq, List.length_nil, List.length_cons, List.map_nil, List.take_zero, Int.natCast_add, Int.cast_ofNat_Int, Int.natCast_zero, List.length_append, List.length_map, List.length_take, Nat.zero_add]) <;> ((repeat' apply And.intro) <;> first | rfl | omega | exact hpt.symm | exact hpf.symm)))
    | ((with_reducible refine EndsAt_id ?_); (try subst_vars); (try simp only [PSc, okSc, talA_len, hL, List.length_cons, List.length_nil, Nat.zero_add, Nat.reduceAdd, Bool.and_true, Bool.and_false, Bool.true_and, Bool.false_and, Bool.and_self, ↓reduceIte, Bool.false_eq_true, Bool.not_true, Bool.not_false, bne]); refine EndsAt.done [_] (by first | exact .inr rfl | exact .inl rfl) rfl rfl ?_ ?_ <;> first | decide | (repeat' (first | rfl | apply And.intro | trivial)))
    | (with_reducible refine AWp.seq ?_)⟩
noncomputable def c_ShareCountsS : Con0 := conF [(.pair .int (.pair .int .int)), .int, (.list .int)] fun (⟨⟨p, q, g⟩, t, ss, _⟩ : (Int × Int × Int) × Int × (List Int) × Unit) => (True, .tup [.own 0 (PSc p q g t ss).length, .lit (.bool (okSc p q g t ss))], [.row 3 .int (PSc p q g t ss)])
noncomputable def G_ShareCountsS : List (FuncId × Con) := [(75, mk c_sGroup), (69, mk c_l1In), (76, mk c_gExps), (78, mk c_yEval), (77, c_w_sNext)]
theorem G_ShareCountsS_ok : ∀ f C, (f, C) ∈ G_ShareCountsS → C.ok Try.prog f := by
  intro f C h
  simp only [G_ShareCountsS, List.mem_cons, Prod.mk.injEq, List.not_mem_nil, or_false] at h
  rcases h with ⟨rfl, rfl⟩ | ⟨rfl, rfl⟩ | ⟨rfl, rfl⟩ | ⟨rfl, rfl⟩ | ⟨rfl, rfl⟩
  · exact ok_sGroup
  · exact ok_l1In
  · exact ok_gExps
  · exact ok_yEval
  · exact ok_w_sNext
set_option maxRecDepth 100000 in
set_option maxHeartbeats 4000000 in
theorem ok_ShareCountsS : (mk c_ShareCountsS).ok Try.prog 24 := okF (Θ := Th) (N := 77) (rs := [.tmp 6, .tmp 7]) Th_ok Try.func24 (by kernel_rfl) rfl Try.results24 (by decide) (by kernel_rfl) fun (⟨⟨p, q, g⟩, t, ss, _⟩ : (Int × Int × Int) × Int × (List Int) × Unit) => ⟨rfl, rfl, Nat.le_of_ble_eq_true rfl, fun hc w0 => by
  have hL := dmy_eq
  try dsimp only at hc
  try dsimp only
  refine AWp.body rfl ?_
  repeat' first
    | ((with_reducible refine hK _ _ ?_); clear hK K)
    | ((with_reducible refine hK _ _ (by kernel_rfl) ?_); clear hK K)
    | ((with_reducible refine AWp.pS Th_ok G_ShareCountsS_ok [0, 1, 2, 3, 6, 7, 8, 9, 10, 11, 12, 13, 37, 43, 48, 49, 50, 51, 67] (by decide) ?_); intro K hK)
    | ((with_reducible refine AWp.dS (by kernel_rfl) Th_ok G_ShareCountsS_ok [0, 1, 2, 3, 6, 7, 8, 9, 10, 11, 12, 13, 37, 43, 48, 49, 50, 51, 67] ?_); intro K hK)
    | ((with_reducible refine AWp.pE Th_ok G_ShareCountsS_ok [0, 1, 2, 3, 6, 7, 8, 9, 10, 11, 12, 13, 37, 43, 48, 49, 50, 51, 67] (by decide) ?_); intro K hK)
    | ((with_reducible refine AWp.dE (by kernel_rfl) Th_ok G_ShareCountsS_ok [0, 1, 2, 3, 6, 7, 8, 9, 10, 11, 12, 13, 37, 43, 48, 49, 50, 51, 67] ?_); intro K hK)
    | ((first | with_reducible refine runF_id ?_ | with_reducible refine stepF_id ?_); simp (maxSteps := 2000000) only [runF, stepF, forkOf, gdOf, List.toList_toArray, stepOp, look, opAV, pureOp, callOp, memOp, AS.ev, AS.get, AS.obj, initS, initFrom, AV.cells, AS.upd, Option.bind_some, Option.bind_none, Option.map_some, Option.map_none, Option.getD_none, Option.getD_some, ↓reduceIte, Nat.reduceEqDiff, Nat.reduceAdd, Nat.reduceMul, Nat.reduceSub, List.nil_append, List.append_nil, List.cons_append, List.map_cons, List.map_nil, true_and, and_true, AS.fin, pick, dedup, List.mem_cons, List.not_mem_nil, or_false, false_or, List.size_toArray, List.length_cons, List.length_nil, loadAV, List.drop_zero, List.drop_succ_cons, List.take_zero, List.take_succ_cons, List.getElem?_cons_zero, List.getElem?_cons_succ, List.head?_cons, List.mapM_cons, List.mapM_nil, Option.bind_eq_bind, Option.pure_def, deeps3, deep3, deep2, deep1, deeps, deeps2, mixInts, AV.plain, mk, mkD, DCon.lift, DCon.runC, ren3, ren2, ren1, numb, List.zipIdx_nil, List.zipIdx_cons, List.all_nil, List.all_cons, Nat.reduceLeDiff, List.range, List.range.loop, Ty.sz, beq_self_eq_true, Bool.and_self, and_self, Ty.ofC, AO.isDead, Nat.reduceLT, if_true, Nat.zero_add, Nat.add_zero, ite_true, Nat.le_refl, Bool.false_eq_true, reduceCtorEq, if_false, ite_false, binAV, AO.ren, AV.isCell, fillAV, List.set_cons_zero, List.set_cons_succ, Ty.cells, Ty.flat, Ty.dflt, List.getD_cons_zero, List.getD_cons_succ, Int.reduceToNat, Int.reduceSub, Int.reduceAdd, Int.reduceMul, Int.reduceNeg, forall_eq_or_imp, forall_eq, gdL, id_eq, Nat.lt_irrefl, srcOf, List.replicate_succ, List.replicate_zero, dite_true, List.isEmpty_cons, Option.isSome_some, List.length_append, List.length_singleton, bne_self_eq_false, Bool.not_true, Bool.not_false, conF, asArgs, asArg, asTy, asI1, asB1, asS1, asL1, canons, canon, Fork.true_, Fork.false_, bne, Bool.not_not, List.length_map, pickO, AS.over, TI.bl, bne_iff_ne, AS.over2, without, keys, List.mem_singleton, memOp2, memOp3, absorb, abInt, abBool, abStr, abList, gones, Int.toNat_natCast, List.take_length, subE, List.nodup_cons, List.nodup_nil, not_false_eq_true, Nat.sub_self, conR, asG, asI, asBo, asStr, asIs, asBs, asE4, asI2, asI3, asLL, asLLL, Th_int, Th_Sint, Th_bool, Th_implBases, Th_implDealing, Th_implEqualLog, Th_implGroup, Th_implSDealing, Th_implSharedKey, Th_lawsDealing, Th_lawsEqualLog, Th_lawsGroup, Th_lawsSDealing, Th_lawsSharedKey, Th_string, G_ShareCountsS, c_sGroup, c_l1In, c_gExps, c_yEval, c_w_sNext, sel_w_sNext, conM, Con.wr, rowsT, rowsAO, lensR, cntR, mrkR, pair2, List.headD_cons, List.tail_cons, List.nodup_cons, List.nodup_nil, not_false_eq_true, cnt_int, cnt_mrk, mrk_len .int, F_w_sNext, hL])
    | ((with_reducible refine ens_step ?_ (fun hE => ?_)); · ((repeat' with_reducible apply And.intro) <;> first | with_reducible assumption | omega | exact True.intro | with_reducible rfl | (show ByteArray.size _ ≤ _; decide) | (simp; done) | (simp; omega) | rfl))
    | ((with_reducible refine And.intro ?_ ?_); · ((repeat' with_reducible apply And.intro) <;> first | with_reducible assumption | omega | exact True.intro | with_reducible rfl | (show ByteArray.size _ ≤ _; decide) | (simp; done) | (simp; omega) | rfl))
    | ((with_reducible refine Fork.intro (fun h' => ?_) (fun h' => ?_)) <;> (try simp only [Bool.not_eq_true', Bool.not_eq_false', bne] at h') <;> (replace hL := And.intro h' hL) <;> (try simp only [decide_eq_true_eq, decide_eq_false_iff_not, beq_iff_eq, beq_eq_false_iff_ne, ne_eq] at h') <;> (try (have hsh := shB_of h'; obtain ⟨hgd, hq7⟩ := hsh; have hG := M.goodB_of hgd; have hq2 := hG.q2; have hqp := hG.qp; have hp3 := hG.p3; have hpM := hG.pM)) <;> (try (have hq23 : ¬ 23 < q := h')) <;> (try (have hin := inr_t h')) <;> (try (have hex := expsB_all12' h'; have hqq : 2 ≤ q ∧ q ≤ 23 := (by omega); have hpT := powQ hqq (k := t.toNat) (by omega); obtain ⟨_, _, hp3, hp4⟩ := hpT; have htt : ((t.toNat : Nat) : Int) = t := (by omega); have hqt : ((q.toNat : Nat) : Int) = q := (by omega))) <;> (try (have hjs : j = ss.length := (by omega); subst hjs)) <;> (try (have hbt : b = true := h'; have hzz := hz1 hbt; obtain ⟨hn, hxs⟩ := hzz; subst hxs; have hdi := rdg_in (n := n) (T := t.toNat) hqq.1; have hdl := rdg_len (Q := q.toNat) (T := t.toNat) (n := n); have hdh := hd_bd hqq.1 hdi (by omega); have htl := talB_len (q := q) (t := t) (ss := ss) (n := n); have htb := talB_bd (t := t) (ss := ss) (n := n) hqq.1 (s := ((rdg q.toNat t.toNat n).getD 0 0).toNat) (by omega); have hni := nxt_inv (n := n) (T := t.toNat) hqq.1 hn; obtain ⟨hni1, hni2, hni3⟩ := hni)) <;> (try (have hbf : b = false := h'; have hnq := hz2 hbf; subst hnq; have hte := talB_eq (t := t) (ss := ss) hqq.1; replace hL := And.intro hte hL)) <;> (try (have hpt := okP_t h')) <;> (try (have hpf := okP_f h')) <;> (try (have hta := (talB_t (n := n) h').symm)) <;> (try (have hta := (talB_f (n := n) h').symm)))
    | (with_reducible refine AWp.skipS ?_)
    | ((with_reducible refine AWp.condT rfl ?_))
    | ((with_reducible refine AWp.condF rfl ?_))
    | (with_reducible refine AWp.condB rfl ?_)
    | ((with_reducible refine AWp.ret_id ?_); refine AWp.sub (Sub.nilSlot 6 200006 3 .int rfl rfl) ?_)
    | (with_reducible refine AWp.ret ?_)
    | (with_reducible refine seqQ_n ?_)
    | (with_reducible refine seqQ_ret ?_)
    | (with_reducible refine blkQ_ret ?_)
    | (with_reducible refine blkQ_n ?_)
    | (with_reducible refine seqQ_exit ?_)
    | (with_reducible refine blkQ_exit ?_)
    | (with_reducible refine blkQ_other (by decide) ?_)
    | (with_reducible refine AWp.block ?_)
    | (with_reducible refine AWp.exit ?_)
    | (with_reducible refine AWp.skip ?_)
    | ((with_reducible refine loop_id ?_); refine AWp.loopAt 6 rfl ?_; refine AWp.loopO [10, 11, 12, 13, 43, 44, 45, 46, 47, 48, 49, 50, 51, 52, 53, 54, 55, 56, 57, 58, 59, 60, 61, 62, 63, 64, 65, 66, 67, 68, 69, 70, 71, 72, 73, 74, 75] (fun z : Nat × List Int × Bool => [(10, .lit (.bool z.2.2))]) (fun z => [(232, .row 3 .int (talB q t ss z.1)), (256, .row 3 .int z.2.1)]) (fun z => (z.2.2 = true → z.1 < (q.toNat ^ t.toNat) ∧ z.2.1 = rdg q.toNat t.toNat z.1) ∧ (z.2.2 = false → z.1 = (q.toNat ^ t.toNat)) ∧ z.2.1.length = t.toNat ∧ z.1 ≤ (q.toNat ^ t.toNat)) (fun z => (q.toNat ^ t.toNat) - z.1) (0, List.replicate t.toNat 0, true) (by (try dsimp only); exact ⟨fun _ => ⟨by omega, rdg_zero⟩, (fun h => nomatch h), by simp, by omega⟩) (by (refine Sub.auto (by first | exact frok0 | assumption) rfl rfl ?_ ?_ <;> (try simp only [subE, AS.over2, without, keys, look, List.cons_append, List.nil_append, List.append_nil, List.mem_cons, List.not_mem_nil, or_false, or_true, true_or, false_or, Nat.reduceEqDiff, ↓reduceIte, Option.some.injEq, AV.lit.injEq, Value.int.injEq, Value.bool.injEq, AV.own.injEq, AO.row.injEq, AO.box.injEq, List.cons.injEq, AV.agg.injEq, AV.sl.injEq, true_and, and_true, and_self, heq_eq_eq, List.length_nil, List.length_cons, List.map_nil, List.take_zero, Int.natCast_add, Int.cast_ofNat_Int, Int.natCast_zero, List.length_append, List.length_map, List.length_take, Nat.zero_add]) <;> ((repeat' apply And.intro) <;> first | rfl | (simp; done)))) (fun z hz6 L6 hLoop6 => ?_); obtain ⟨n, xs, b⟩ := z; (try dsimp only at hz6); obtain ⟨hz1, hz2, hz3, hz4⟩ := hz6)
    | ((with_reducible refine seqQ_f ?_); refine hLoop6 (n + 1, (nxt q (rdg q.toNat t.toNat n) t.toNat).1, (nxt q (rdg q.toNat t.toNat n) t.toNat).2) _ (by (try dsimp only); exact ⟨hni1, hni2, hni3, by omega⟩) (by (try dsimp only); omega) ?_; ((refine Sub.auto (by first | exact frok0 | assumption) rfl rfl ?_ ?_ <;> (try simp only [subE, AS.over2, without, keys, look, List.cons_append, List.nil_append, List.append_nil, List.mem_cons, List.not_mem_nil, or_false, or_true, true_or, false_or, Nat.reduceEqDiff, ↓reduceIte, Option.some.injEq, AV.lit.injEq, Value.int.injEq, Value.bool.injEq, AV.own.injEq, AO.row.injEq, AO.box.injEq, List.cons.injEq, AV.agg.injEq, AV.sl.injEq, true_and, and_true, and_self, heq_eq_eq, List.length_nil, List.length_cons, List.map_nil, List.take_zero, Int.natCast_add, Int.cast_ofNat_Int, Int.natCast_zero, List.length_append, List.length_map, List.length_take, Nat.zero_add]) <;> ((repeat' apply And.intro) <;> first | rfl | omega | exact hta | (simp; done)))))
    | ((with_reducible refine loop_id ?_); refine AWp.loopAt 10 rfl ?_; refine AWp.loopO [11, 12, 13, 50, 51, 52, 53, 54, 55, 56, 57, 58, 59, 60, 61, 62, 63, 64, 65, 66] (fun j => [(11, .lit (.bool (okP q ss (rdg q.toNat t.toNat n) j))), (50, .lit (.int .i64 (j : Nat)))]) (fun j => []) (fun j => j ≤ ss.length) (fun j => ss.length - j) 0 (by omega) (by refine Sub.auto (by first | exact frok0 | assumption) rfl rfl ?_ ?_ <;> (try simp only [subE, AS.over2, without, keys, look, List.cons_append, List.nil_append, List.append_nil, List.mem_cons, List.not_mem_nil, or_false, or_true, true_or, false_or, Nat.reduceEqDiff, ↓reduceIte, Option.some.injEq, AV.lit.injEq, Value.int.injEq, Value.bool.injEq, AV.own.injEq, AO.row.injEq, AO.box.injEq, List.cons.injEq, AV.agg.injEq, AV.sl.injEq, true_and, and_true, and_self, heq_eq_eq, List.length_nil, List.length_cons, List.map_nil, List.take_zero, Int.natCast_add, Int.cast_ofNat_Int, Int.natCast_zero, List.length_append, List.length_map, List.length_take, Nat.zero_add]) <;> ((repeat' apply And.intro) <;> first | rfl | (simp [okP]; done))) (fun j hj_10 L10 hLoop10 => ?_))
    | ((with_reducible refine seqQ_f ?_); refine hLoop10 (j + 1) _ (by omega) (by omega) ?_; (refine Sub.auto (by first | exact frok0 | assumption) rfl rfl ?_ ?_ <;> (try simp only [subE, AS.over2, without, keys, look, List.cons_append, List.nil_append, List.append_nil, List.mem_cons, List.not_mem_nil, or_false, or_true, true_or, false_or, Nat.reduceEqDiff, ↓reduceIte, Option.some.injEq, AV.lit.injEq, Value.int.injEq, Value.bool.injEq, AV.own.injEq, AO.row.injEq, AO.box.injEq, List.cons.injEq, AV.agg.injEq, AV.sl.injEq, true_and, and_true, and_self, heq_eq_eq, List.length_nil, List.length_cons, List.map_nil, List.take_zero, Int.natCast_add, Int.cast_ofNat_Int, Int.natCast_zero, List.length_append, List.length_map, List.length_take, Nat.zero_add]) <;> ((repeat' apply And.intro) <;> first | rfl | omega | exact hpt.symm | exact hpf.symm)))
    | ((with_reducible refine EndsAt_id ?_); (try subst_vars); (try simp only [PSc, okSc, talB_eq, talA_len, talB_len, hL, List.length_cons, List.length_nil, Nat.zero_add, Nat.reduceAdd, Bool.and_true, Bool.and_false, Bool.true_and, Bool.false_and, Bool.and_self, ↓reduceIte, Bool.false_eq_true, Bool.not_true, Bool.not_false, bne]); refine EndsAt.done [_] (by first | exact .inr rfl | exact .inl rfl) rfl rfl ?_ ?_ <;> first | decide | (repeat' (first | rfl | apply And.intro | trivial)))
    | (with_reducible refine AWp.seq ?_)⟩
end Go.Proofs.Ytjapjmhifoeogaa
