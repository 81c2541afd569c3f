import Derived.Test.YtjapjmhifoeogaaZH1
import Derived.Test.YtjapjmhifoeogaaZAJ
import Derived.Test.YtjapjmhifoeogaaZB3
import Derived.Test.YtjapjmhifoeogaaZN1
import Derived.Test.YtjapjmhifoeogaaZE3
import Derived.Test.YtjapjmhifoeogaaZKit
import Derived.Test.YtjapjmhifoeogaaZB4
/- Derived bases on both sides. -/
set_option linter.all false
set_option linter.unusedVariables false
set_option linter.unusedSimpArgs false
namespace Go.Proofs.Ytjapjmhifoeogaa
open Go.RowKit
noncomputable def c_power : Con0 := fun args => match args with
  | [a0, a1, a2] => match asI a0, asI a1, asI a2 with
    | some a, some e, some m => some ((1 ≤ m ∧ m ≤ 2000000000) ∧ (0 ≤ a ∧ a < m) ∧ e ≤ 9223372036854775807, .lit (.int .i64 (M.pw a e m)), [])
    | _, _, _ => none
  | _ => none
set_option linter.unusedVariables false in
theorem ok_power : (mk c_power).ok Try.prog 127 := Con0.okLit (enter_of Try.func127 (by kernel_rfl) (by kernel_rfl)) fun args c x obs h => by
  unfold c_power at h
  split at h
  · split at h
    · rename_i a e m e0 e1 e2
      cases h
      refine ⟨rfl, _, rfl, fun hc w vs hv => ?_⟩
      obtain ⟨u0, vs, rfl, r0, h0⟩ := hv.cons_of
      obtain ⟨u1, vs, rfl, r1, h1⟩ := h0.cons_of
      obtain ⟨u2, vs, rfl, r2, h2⟩ := h1.cons_of
      rw [h2.nil_of]
      obtain rfl := asI_sound e0 r0
      obtain rfl := asI_sound e1 r1
      obtain rfl := asI_sound e2 r2
      exact Calls.keep (power_any a e m _ hc.1 hc.2.1 hc.2.2)
    · cases h
  · cases h
noncomputable def c_nPower : Con0 := fun args => match args with
  | [a0, a1, a2] => match asI a0, asI a1, asI a2 with
    | some a, some e, some m => some ((1 ≤ m ∧ m ≤ 2000000000) ∧ (0 ≤ a ∧ a < m) ∧ e ≤ 9223372036854775807, .lit (.int .i64 (M.pw a e m)), [])
    | _, _, _ => none
  | _ => none
set_option linter.unusedVariables false in
theorem ok_nPower : (mk c_nPower).ok Try.prog 118 := Con0.okLit (enter_of Try.func118 (by kernel_rfl) (by kernel_rfl)) fun args c x obs h => by
  unfold c_nPower at h
  split at h
  · split at h
    · rename_i a e m e0 e1 e2
      cases h
      refine ⟨rfl, _, rfl, fun hc w vs hv => ?_⟩
      obtain ⟨u0, vs, rfl, r0, h0⟩ := hv.cons_of
      obtain ⟨u1, vs, rfl, r1, h1⟩ := h0.cons_of
      obtain ⟨u2, vs, rfl, r2, h2⟩ := h1.cons_of
      rw [h2.nil_of]
      obtain rfl := asI_sound e0 r0
      obtain rfl := asI_sound e1 r1
      obtain rfl := asI_sound e2 r2
      exact Calls.keep (nPower_any a e m _ hc.1 hc.2.1 hc.2.2)
    · cases h
  · cases h
noncomputable def c_hashLabelled : Con0 := fun args => match args with
  | [a0, a1] => match asStr a0, asIs a1 with
    | some s, some xs => some (s.size ≤ 40 ∧ xs.length ≤ 359 ∧ ∀ x ∈ xs, 0 ≤ x ∧ x ≤ 4611686018427387903, .tup [.lit (.int .i64 (M.hashL (M.lab s.data.toList xs))), .lit (.bool true)], [])
    | _, _ => none
  | _ => none
set_option linter.unusedVariables false in
theorem ok_hashLabelled : (mk c_hashLabelled).ok Try.prog 148 := Con0.okLit (enter_of Try.func148 (by kernel_rfl) (by kernel_rfl)) fun args c x obs h => by
  unfold c_hashLabelled at h
  split at h
  · split at h
    · rename_i s xs e0 e1
      cases h
      refine ⟨rfl, _, rfl, fun hc w vs hv => ?_⟩
      obtain ⟨u0, vs, rfl, r0, h0⟩ := hv.cons_of
      obtain ⟨u1, vs, rfl, r1, h1⟩ := h0.cons_of
      rw [h1.nil_of]
      obtain rfl := asStr_sound e0 r0
      obtain ⟨A_xs, c_xs, rfl, hx_xs, hl_xs, hc_xs⟩ := asIs_sound e1 r1
      exact hashLabelled_any s hc.1 A_xs c_xs xs hc.2.1 hc.2.2 _ hx_xs
    · cases h
  · cases h
noncomputable def c_hLabelled : Con0 := fun args => match args with
  | [a0, a1] => match asStr a0, asIs a1 with
    | some s, some xs => some (s.size ≤ 40 ∧ xs.length ≤ 359 ∧ ∀ x ∈ xs, 0 ≤ x ∧ x ≤ 4611686018427387903, .lit (.int .i64 (M.hashL (M.lab s.data.toList xs))), [])
    | _, _ => none
  | _ => none
set_option linter.unusedVariables false in
theorem ok_hLabelled : (mk c_hLabelled).ok Try.prog 146 := Con0.okLit (enter_of Try.func146 (by kernel_rfl) (by kernel_rfl)) fun args c x obs h => by
  unfold c_hLabelled at h
  split at h
  · split at h
    · rename_i s xs e0 e1
      cases h
      refine ⟨rfl, _, rfl, fun hc w vs hv => ?_⟩
      obtain ⟨u0, vs, rfl, r0, h0⟩ := hv.cons_of
      obtain ⟨u1, vs, rfl, r1, h1⟩ := h0.cons_of
      rw [h1.nil_of]
      obtain rfl := asStr_sound e0 r0
      obtain ⟨A_xs, c_xs, rfl, hx_xs, hl_xs, hc_xs⟩ := asIs_sound e1 r1
      exact hLabelled_any s hc.1 A_xs c_xs xs hc.2.1 hc.2.2 _ hx_xs
    · cases h
  · cases h
theorem pw_ne {p x k : Int} (hp : M.Prime p) (hx : 1 ≤ x ∧ x < p) : M.pw x k p ≠ 0 := by
  intro h
  have hg := M.prime_gcd hp (by omega) hx.2
  have h1 : p ∣ x ^ k.toNat := Int.dvd_of_emod_eq_zero h
  have h2 : p.natAbs ∣ x.natAbs ^ k.toNat := by rw [← Int.natAbs_pow]; exact Int.natAbs_dvd_natAbs.2 h1
  have h3 : Nat.Coprime p.natAbs x.natAbs := by
    have : Nat.gcd x.natAbs p.natAbs = 1 := hg
    exact Nat.Coprime.symm this
  have h4 := Nat.Coprime.eq_one_of_dvd (Nat.Coprime.pow_right k.toNat h3) h2
  have := hp.1
  omega
noncomputable def hV (p q g : Int) (s : ByteArray) (i n : Int) : Int := M.pw (1 + M.hashL (M.lab s.data.toList [p, q, g, i, n]) % (p - 1)) ((p - 1) / q) p
/-- the first value that is not 1 -/
noncomputable def drvF (f : Int → Int) : Nat → Nat → Int
  | 0, _ => 0
  | k + 1, n => if f n = 1 then drvF f k (n + 1) else f n
noncomputable def drv (p q g : Int) (s : ByteArray) (i : Int) : Int := drvF (hV p q g s i) 1000 0
theorem drvF_t {f : Int → Int} {n : Nat} (hn : n < 1000) (h : f n = 1) : drvF f (1000 - n) n = drvF f (1000 - (n + 1)) (n + 1) := by
  have : 1000 - n = (1000 - (n + 1)) + 1 := by omega
  rw [this, drvF, if_pos h]
theorem drvF_f {f : Int → Int} {n : Nat} (hn : n < 1000) (h : ¬ f n = 1) : drvF f (1000 - n) n = f n := by
  have : 1000 - n = (1000 - (n + 1)) + 1 := by omega
  rw [this, drvF, if_neg h]
theorem drvF_end {f : Int → Int} : drvF f (1000 - 1000) 1000 = 0 := rfl
theorem hV_arg {p q g : Int} (hG : M.Grp p q g) {s : ByteArray} {i n : Int} : (0 ≤ M.hashL (M.lab s.data.toList [p, q, g, i, n]) ∧ M.hashL (M.lab s.data.toList [p, q, g, i, n]) ≤ 4611686018427387903) ∧ (0 ≤ M.hashL (M.lab s.data.toList [p, q, g, i, n]) % (p - 1) ∧ M.hashL (M.lab s.data.toList [p, q, g, i, n]) % (p - 1) < p - 1) ∧ (0 ≤ (p - 1) / q ∧ (p - 1) / q ≤ p) := by
  have h3 := hG.p3
  have h2 := hG.q2
  refine ⟨M.hashL_lt _, emod_bd (by omega), Int.ediv_nonneg (by omega) (by omega), ?_⟩
  have := Int.ediv_le_self (a := p - 1) q (by omega)
  omega
theorem hV_bd {p q g : Int} (hG : M.Grp p q g) {s : ByteArray} {i n : Int} : 0 < hV p q g s i n ∧ hV p q g s i n < p := by
  have h3 := hG.p3
  obtain ⟨_, ⟨h4, h5⟩, _⟩ := hV_arg hG (s := s) (i := i) (n := n)
  have h1 := pw_ne (k := (p - 1) / q) hG.pp (x := 1 + M.hashL (M.lab s.data.toList [p, q, g, i, n]) % (p - 1)) (by omega)
  have h2 : 0 ≤ hV p q g s i n ∧ hV p q g s i n < p := M.pw_lt _ _ _ (by omega)
  have h6 : hV p q g s i n ≠ 0 := h1
  omega
theorem drvF_bd {p : Int} {f : Int → Int} (hp : 0 < p) (h : ∀ n, 0 ≤ f n ∧ f n < p) : ∀ k n : Nat, 0 ≤ drvF f k n ∧ drvF f k n < p
  | 0, _ => ⟨by simp [drvF], by simpa [drvF] using hp⟩
  | k + 1, n => by
    rw [drvF]; split
    · exact drvF_bd hp h k (n + 1)
    · exact h n
theorem drv_bd {p q g : Int} (hG : M.Grp p q g) {s : ByteArray} {i : Int} : 0 ≤ drv p q g s i ∧ drv p q g s i < p := drvF_bd (by have := hG.p3; omega) (fun n => by have := hV_bd hG (s := s) (i := i) (n := n); omega) _ _
noncomputable def drvs (p q g : Int) (s : ByteArray) (k : Nat) : List Int := (List.range k).map fun (i : Nat) => drv p q g s i
noncomputable def okDs (p q g : Int) (s : ByteArray) (k : Nat) : Bool := (List.range k).all fun (i : Nat) => decide (0 < drv p q g s i)
section
variable {p q g : Int} {s : ByteArray} {k : Nat}
theorem drvs_len : (drvs p q g s k).length = k := by simp [drvs]
theorem drvs_step : drvs p q g s k ++ [drv p q g s k] = drvs p q g s (k + 1) := by simp [drvs, List.range_succ]
theorem okDs_t (h : okDs p q g s k = true) : okDs p q g s (k + 1) = decide (0 < drv p q g s k) := by
  unfold okDs at *; rw [List.range_succ, List.all_append, h]; simp
theorem okDs_f (h : okDs p q g s k = false) : okDs p q g s (k + 1) = false := by
  unfold okDs at *; rw [List.range_succ, List.all_append, h]; rfl
theorem okDs_no {n : Nat} (hk : k < n) (h : drv p q g s k = 0) : okDs p q g s n = false := by
  unfold okDs; rw [List.all_eq_false]; exact ⟨k, List.mem_range.2 hk, by simp [h]⟩
end
noncomputable def c_derive : Con0 := conF [(.pair .int (.pair .int .int)), .str, .int] fun (⟨⟨p, q, g⟩, s, i, _⟩ : (Int × Int × Int) × ByteArray × Int × Unit) => (M.Grp p q g ∧ s.size ≤ 40 ∧ (0 ≤ i ∧ i ≤ 4611686018427387903), .tup [.lit (.int .i64 (drv p q g s i)), .lit (.bool (decide (0 < (drv p q g s i))))], [])
noncomputable def G_derive : List (FuncId × Con) := [(148, mk c_hashLabelled), (127, mk c_power)]
theorem G_derive_ok : ∀ f C, (f, C) ∈ G_derive → C.ok Try.prog f := by
  intro f C h
  simp only [G_derive, List.mem_cons, Prod.mk.injEq, List.not_mem_nil, or_false] at h
  rcases h with ⟨rfl, rfl⟩ | ⟨rfl, rfl⟩
  · exact ok_hashLabelled
  · exact ok_power
set_option maxRecDepth 100000 in
set_option maxHeartbeats 4000000 in
theorem ok_derive : (mk c_derive).ok Try.prog 128 := okF (Θ := Th) (N := 50) (rs := [.tmp 6, .tmp 7]) Th_ok Try.func128 (by kernel_rfl) rfl Try.results128 (by decide) (by kernel_rfl) fun (⟨⟨p, q, g⟩, s, i, _⟩ : (Int × Int × Int) × ByteArray × Int × Unit) => ⟨rfl, rfl, Nat.le_of_ble_eq_true rfl, fun hc w0 => by
  have hL := dmy_eq
  try dsimp only at hc
  try dsimp only
  obtain ⟨hG, hsz, hi⟩ := hc
  have hq2 := hG.q2
  have hqp := hG.qp
  have hp3 := hG.p3
  have hpM := hG.pM
  have hgb : 0 ≤ g ∧ g < p := ⟨by have := hG.g2; omega, hG.gp⟩
  have hdb := drv_bd hG (s := s) (i := i)
  refine AWp.body rfl ?_
  repeat' first
    | ((with_reducible refine hK _ _ ?_); clear hK K)
    | ((with_reducible refine hK _ _ (by kernel_rfl) ?_); clear hK K)
    | ((with_reducible refine AWp.pS Th_ok G_derive_ok [0, 1, 2, 3, 6, 7, 8, 9, 10, 11, 12, 13, 30, 47] (by decide) ?_); intro K hK)
    | ((with_reducible refine AWp.dS (by kernel_rfl) Th_ok G_derive_ok [0, 1, 2, 3, 6, 7, 8, 9, 10, 11, 12, 13, 30, 47] ?_); intro K hK)
    | ((with_reducible refine AWp.pE Th_ok G_derive_ok [0, 1, 2, 3, 6, 7, 8, 9, 10, 11, 12, 13, 30, 47] (by decide) ?_); intro K hK)
    | ((with_reducible refine AWp.dE (by kernel_rfl) Th_ok G_derive_ok [0, 1, 2, 3, 6, 7, 8, 9, 10, 11, 12, 13, 30, 47] ?_); intro K hK)
    | ((first | with_reducible refine runF_id ?_ | with_reducible refine stepF_id ?_); simp (maxSteps := 2000000) only [runF, stepF, forkOf, gdOf, List.toList_toArray, stepOp, look, opAV, pureOp, callOp, memOp, AS.ev, AS.get, AS.obj, initS, initFrom, AV.cells, AS.upd, Option.bind_some, Option.bind_none, Option.map_some, Option.map_none, Option.getD_none, Option.getD_some, ↓reduceIte, Nat.reduceEqDiff, Nat.reduceAdd, Nat.reduceMul, Nat.reduceSub, List.nil_append, List.append_nil, List.cons_append, List.map_cons, List.map_nil, true_and, and_true, AS.fin, pick, dedup, List.mem_cons, List.not_mem_nil, or_false, false_or, List.size_toArray, List.length_cons, List.length_nil, loadAV, List.drop_zero, List.drop_succ_cons, List.take_zero, List.take_succ_cons, List.getElem?_cons_zero, List.getElem?_cons_succ, List.head?_cons, List.mapM_cons, List.mapM_nil, Option.bind_eq_bind, Option.pure_def, deeps3, deep3, deep2, deep1, deeps, deeps2, mixInts, AV.plain, mk, mkD, DCon.lift, DCon.runC, ren3, ren2, ren1, numb, List.zipIdx_nil, List.zipIdx_cons, List.all_nil, List.all_cons, Nat.reduceLeDiff, List.range, List.range.loop, Ty.sz, beq_self_eq_true, Bool.and_self, and_self, Ty.ofC, AO.isDead, Nat.reduceLT, if_true, Nat.zero_add, Nat.add_zero, ite_true, Nat.le_refl, Bool.false_eq_true, reduceCtorEq, if_false, ite_false, binAV, AO.ren, AV.isCell, fillAV, List.set_cons_zero, List.set_cons_succ, Ty.cells, Ty.flat, Ty.dflt, List.getD_cons_zero, List.getD_cons_succ, Int.reduceToNat, Int.reduceSub, Int.reduceAdd, Int.reduceMul, Int.reduceNeg, forall_eq_or_imp, forall_eq, gdL, id_eq, Nat.lt_irrefl, srcOf, List.replicate_succ, List.replicate_zero, dite_true, List.isEmpty_cons, Option.isSome_some, List.length_append, List.length_singleton, bne_self_eq_false, Bool.not_true, Bool.not_false, conF, asArgs, asArg, asTy, asI1, asB1, asS1, asL1, canons, canon, Fork.true_, Fork.false_, bne, Bool.not_not, List.length_map, pickO, AS.over, TI.bl, bne_iff_ne, AS.over2, without, keys, List.mem_singleton, memOp2, memOp3, absorb, abInt, abBool, abStr, abList, gones, Int.toNat_natCast, List.take_length, subE, List.nodup_cons, List.nodup_nil, not_false_eq_true, Nat.sub_self, conR, asG, asI, asBo, asStr, asIs, asBs, asE4, asI2, asI3, asLL, asLLL, Th_int, Th_Sint, Th_bool, Th_implBases, Th_implDealing, Th_implGroup, Th_lawsEqualLog, Th_lawsGroup, Th_string, G_derive, c_hashLabelled, c_power, hL])
    | ((with_reducible refine ens_step ?_ (fun hE => ?_)); · ((repeat' with_reducible apply And.intro) <;> first | with_reducible assumption | omega | exact True.intro | with_reducible rfl | (show ByteArray.size _ ≤ _; decide) | (simp; done) | (simp; omega) | rfl))
    | ((with_reducible refine And.intro ?_ ?_); · ((repeat' with_reducible apply And.intro) <;> first | with_reducible assumption | omega | exact True.intro | with_reducible rfl | (show ByteArray.size _ ≤ _; decide) | (simp; done) | (simp; omega) | rfl))
    | ((with_reducible refine Fork.intro (fun h' => ?_) (fun h' => ?_)) <;> (try simp only [Bool.not_eq_true', Bool.not_eq_false', bne] at h') <;> (replace hL := And.intro h' hL) <;> (try simp only [decide_eq_true_eq, decide_eq_false_iff_not, beq_iff_eq, beq_eq_false_iff_ne, ne_eq] at h') <;> (try (have hdf := drvF_f (f := hV p q g s i) (n := n) (by omega) h'; rw [hdf] at hz2; have hvb := hV_bd hG (s := s) (i := i) (n := (n : Int)); have hvd := decide_eq_true hvb.1; have hz2' : drv p q g s i = M.pw (1 + M.hashL (M.lab s.data.toList [p, q, g, i, (n : Int)]) % (p - 1)) ((p - 1) / q) p := hz2.symm; replace hvd : decide (0 < M.pw (1 + M.hashL (M.lab s.data.toList [p, q, g, i, (n : Int)]) % (p - 1)) ((p - 1) / q) p) = true := hvd; replace hL := And.intro hz2' (And.intro hvd hL))) <;> (try (have hdt := drvF_t (f := hV p q g s i) (n := n) (by omega) h'; rw [hdt] at hz2)) <;> (try (have hne : n = 1000 := (by omega); subst hne; rw [drvF_end] at hz2; have hz2' : drv p q g s i = 0 := hz2.symm; have hvd : decide ((0 : Int) < 0) = false := (by decide); replace hL := And.intro hz2' (And.intro hvd hL))))
    | (with_reducible refine AWp.skipS ?_)
    | ((with_reducible refine AWp.condT rfl ?_))
    | ((with_reducible refine AWp.condF rfl ?_))
    | (with_reducible refine AWp.condB rfl ?_)
    | (with_reducible refine AWp.ret ?_)
    | (with_reducible refine seqQ_n ?_)
    | (with_reducible refine seqQ_ret ?_)
    | (with_reducible refine blkQ_ret ?_)
    | (with_reducible refine blkQ_n ?_)
    | (with_reducible refine seqQ_exit ?_)
    | (with_reducible refine blkQ_exit ?_)
    | (with_reducible refine blkQ_other (by decide) ?_)
    | (with_reducible refine AWp.block ?_)
    | (with_reducible refine AWp.exit ?_)
    | (with_reducible refine AWp.skip ?_)
    | ((with_reducible refine loop_id ?_); refine AWp.loopAt 2 rfl ?_; refine AWp.loopO [6, 7, 8, 9, 10, 11, 12, 13, 14, 15, 16, 17, 18, 19, 20, 21, 22, 23, 24, 25, 26, 27, 28, 29, 30, 31, 32, 33, 34, 35, 36, 37, 38, 39, 40, 41, 42, 43, 44, 45, 46, 47, 48, 49] (fun n => [(12, .lit (.int .i64 (n : Nat)))]) (fun n => []) (fun n => n ≤ 1000 ∧ drvF (hV p q g s i) (1000 - n) n = drv p q g s i) (fun n => 1000 - n) 0 (by exact ⟨by omega, rfl⟩) (by refine Sub.auto (by first | exact frok0 | assumption) rfl rfl ?_ ?_ <;> (try simp only [subE, AS.over2, without, keys, look, List.cons_append, List.nil_append, List.append_nil, List.mem_cons, List.not_mem_nil, or_false, or_true, true_or, false_or, Nat.reduceEqDiff, ↓reduceIte, Option.some.injEq, AV.lit.injEq, Value.int.injEq, Value.bool.injEq, AV.own.injEq, AO.row.injEq, AO.box.injEq, List.cons.injEq, AV.agg.injEq, AV.sl.injEq, true_and, and_true, and_self, heq_eq_eq, List.length_nil, List.length_cons, List.map_nil, List.take_zero, Int.natCast_add, Int.cast_ofNat_Int, Int.natCast_zero, List.length_append, List.length_map, List.length_take, Nat.zero_add]) <;> ((repeat' apply And.intro) <;> first | rfl | (simp; done))) (fun n hn_2 L2 hLoop2 => ?_); obtain ⟨hz1, hz2⟩ := hn_2; have hha := hV_arg hG (s := s) (i := i) (n := (n : Int)); obtain ⟨⟨ha1, ha2⟩, ⟨ha3, ha4⟩, ⟨ha5, ha6⟩⟩ := hha)
    | ((with_reducible refine seqQ_f ?_); refine hLoop2 (n + 1) _ (by exact ⟨by omega, hz2⟩) (by omega) ?_; (refine Sub.auto (by first | exact frok0 | assumption) rfl rfl ?_ ?_ <;> (try simp only [subE, AS.over2, without, keys, look, List.cons_append, List.nil_append, List.append_nil, List.mem_cons, List.not_mem_nil, or_false, or_true, true_or, false_or, Nat.reduceEqDiff, ↓reduceIte, Option.some.injEq, AV.lit.injEq, Value.int.injEq, Value.bool.injEq, AV.own.injEq, AO.row.injEq, AO.box.injEq, List.cons.injEq, AV.agg.injEq, AV.sl.injEq, true_and, and_true, and_self, heq_eq_eq, List.length_nil, List.length_cons, List.map_nil, List.take_zero, Int.natCast_add, Int.cast_ofNat_Int, Int.natCast_zero, List.length_append, List.length_map, List.length_take, Nat.zero_add]) <;> ((repeat' apply And.intro) <;> first | rfl | omega)))
    | ((with_reducible refine EndsAt_id ?_); (try subst_vars); (try simp only [id_eq, hL, List.length_cons, List.length_nil, Nat.zero_add, Nat.reduceAdd, Bool.and_true, Bool.and_false, Bool.true_and, Bool.false_and, Bool.and_self, ↓reduceIte, Bool.false_eq_true, Bool.not_true, Bool.not_false, bne]); refine EndsAt.done [] (by first | exact .inr rfl | exact .inl rfl) rfl rfl ?_ ?_ <;> first | decide | (repeat' (first | rfl | apply And.intro | trivial)))
    | (with_reducible refine AWp.seq ?_)⟩
noncomputable def c_hDerived : Con0 := conF [(.pair .int (.pair .int .int)), .str, .int] fun (⟨⟨p, q, g⟩, s, i, _⟩ : (Int × Int × Int) × ByteArray × Int × Unit) => (M.Grp p q g ∧ s.size ≤ 40 ∧ (0 ≤ i ∧ i ≤ 4611686018427387903), .lit (.int .i64 (drv p q g s i)), [])
noncomputable def G_hDerived : List (FuncId × Con) := [(146, mk c_hLabelled), (118, mk c_nPower)]
theorem G_hDerived_ok : ∀ f C, (f, C) ∈ G_hDerived → C.ok Try.prog f := by
  intro f C h
  simp only [G_hDerived, List.mem_cons, Prod.mk.injEq, List.not_mem_nil, or_false] at h
  rcases h with ⟨rfl, rfl⟩ | ⟨rfl, rfl⟩
  · exact ok_hLabelled
  · exact ok_nPower
set_option maxRecDepth 100000 in
set_option maxHeartbeats 4000000 in
theorem ok_hDerived : (mk c_hDerived).ok Try.prog 125 := okF (Θ := Th) (N := 43) (rs := [.tmp 6]) Th_ok Try.func125 (by kernel_rfl) rfl Try.results125 (by decide) (by kernel_rfl) fun (⟨⟨p, q, g⟩, s, i, _⟩ : (Int × Int × Int) × ByteArray × Int × Unit) => ⟨rfl, rfl, Nat.le_of_ble_eq_true rfl, fun hc w0 => by
  have hL := dmy_eq
  try dsimp only at hc
  try dsimp only
  obtain ⟨hG, hsz, hi⟩ := hc
  have hq2 := hG.q2
  have hqp := hG.qp
  have hp3 := hG.p3
  have hpM := hG.pM
  have hgb : 0 ≤ g ∧ g < p := ⟨by have := hG.g2; omega, hG.gp⟩
  have hdb := drv_bd hG (s := s) (i := i)
  refine AWp.body rfl ?_
  repeat' first
    | ((with_reducible refine hK _ _ ?_); clear hK K)
    | ((with_reducible refine hK _ _ (by kernel_rfl) ?_); clear hK K)
    | ((with_reducible refine AWp.pS Th_ok G_hDerived_ok [0, 1, 2, 3, 6, 7, 8, 9, 11, 41] (by decide) ?_); intro K hK)
    | ((with_reducible refine AWp.dS (by kernel_rfl) Th_ok G_hDerived_ok [0, 1, 2, 3, 6, 7, 8, 9, 11, 41] ?_); intro K hK)
    | ((with_reducible refine AWp.pE Th_ok G_hDerived_ok [0, 1, 2, 3, 6, 7, 8, 9, 11, 41] (by decide) ?_); intro K hK)
    | ((with_reducible refine AWp.dE (by kernel_rfl) Th_ok G_hDerived_ok [0, 1, 2, 3, 6, 7, 8, 9, 11, 41] ?_); intro K hK)
    | ((first | with_reducible refine runF_id ?_ | with_reducible refine stepF_id ?_); simp (maxSteps := 2000000) only [runF, stepF, forkOf, gdOf, List.toList_toArray, stepOp, look, opAV, pureOp, callOp, memOp, AS.ev, AS.get, AS.obj, initS, initFrom, AV.cells, AS.upd, Option.bind_some, Option.bind_none, Option.map_some, Option.map_none, Option.getD_none, Option.getD_some, ↓reduceIte, Nat.reduceEqDiff, Nat.reduceAdd, Nat.reduceMul, Nat.reduceSub, List.nil_append, List.append_nil, List.cons_append, List.map_cons, List.map_nil, true_and, and_true, AS.fin, pick, dedup, List.mem_cons, List.not_mem_nil, or_false, false_or, List.size_toArray, List.length_cons, List.length_nil, loadAV, List.drop_zero, List.drop_succ_cons, List.take_zero, List.take_succ_cons, List.getElem?_cons_zero, List.getElem?_cons_succ, List.head?_cons, List.mapM_cons, List.mapM_nil, Option.bind_eq_bind, Option.pure_def, deeps3, deep3, deep2, deep1, deeps, deeps2, mixInts, AV.plain, mk, mkD, DCon.lift, DCon.runC, ren3, ren2, ren1, numb, List.zipIdx_nil, List.zipIdx_cons, List.all_nil, List.all_cons, Nat.reduceLeDiff, List.range, List.range.loop, Ty.sz, beq_self_eq_true, Bool.and_self, and_self, Ty.ofC, AO.isDead, Nat.reduceLT, if_true, Nat.zero_add, Nat.add_zero, ite_true, Nat.le_refl, Bool.false_eq_true, reduceCtorEq, if_false, ite_false, binAV, AO.ren, AV.isCell, fillAV, List.set_cons_zero, List.set_cons_succ, Ty.cells, Ty.flat, Ty.dflt, List.getD_cons_zero, List.getD_cons_succ, Int.reduceToNat, Int.reduceSub, Int.reduceAdd, Int.reduceMul, Int.reduceNeg, forall_eq_or_imp, forall_eq, gdL, id_eq, Nat.lt_irrefl, srcOf, List.replicate_succ, List.replicate_zero, dite_true, List.isEmpty_cons, Option.isSome_some, List.length_append, List.length_singleton, bne_self_eq_false, Bool.not_true, Bool.not_false, conF, asArgs, asArg, asTy, asI1, asB1, asS1, asL1, canons, canon, Fork.true_, Fork.false_, bne, Bool.not_not, List.length_map, pickO, AS.over, TI.bl, bne_iff_ne, AS.over2, without, keys, List.mem_singleton, memOp2, memOp3, absorb, abInt, abBool, abStr, abList, gones, Int.toNat_natCast, List.take_length, subE, List.nodup_cons, List.nodup_nil, not_false_eq_true, Nat.sub_self, conR, asG, asI, asBo, asStr, asIs, asBs, asE4, asI2, asI3, asLL, asLLL, Th_int, Th_Sint, Th_bool, Th_implBases, Th_implEqualLog, Th_implGroup, Th_lawsEqualLog, Th_lawsGroup, Th_string, G_hDerived, c_hLabelled, c_nPower, hL])
    | ((with_reducible refine ens_step ?_ (fun hE => ?_)); · ((repeat' with_reducible apply And.intro) <;> first | with_reducible assumption | omega | exact True.intro | with_reducible rfl | (show ByteArray.size _ ≤ _; decide) | (simp; done) | (simp; omega) | rfl))
    | ((with_reducible refine And.intro ?_ ?_); · ((repeat' with_reducible apply And.intro) <;> first | with_reducible assumption | omega | exact True.intro | with_reducible rfl | (show ByteArray.size _ ≤ _; decide) | (simp; done) | (simp; omega) | rfl))
    | ((with_reducible refine Fork.intro (fun h' => ?_) (fun h' => ?_)) <;> (try simp only [Bool.not_eq_true', Bool.not_eq_false', bne] at h') <;> (replace hL := And.intro h' hL) <;> (try simp only [decide_eq_true_eq, decide_eq_false_iff_not, beq_iff_eq, beq_eq_false_iff_ne, ne_eq] at h') <;> (try (have hdf := drvF_f (f := hV p q g s i) (n := n) (by omega) h'; rw [hdf] at hz2; have hvb := hV_bd hG (s := s) (i := i) (n := (n : Int)); have hvd := decide_eq_true hvb.1; have hz2' : drv p q g s i = M.pw (1 + M.hashL (M.lab s.data.toList [p, q, g, i, (n : Int)]) % (p - 1)) ((p - 1) / q) p := hz2.symm; replace hvd : decide (0 < M.pw (1 + M.hashL (M.lab s.data.toList [p, q, g, i, (n : Int)]) % (p - 1)) ((p - 1) / q) p) = true := hvd; replace hL := And.intro hz2' (And.intro hvd hL))) <;> (try (have hdt := drvF_t (f := hV p q g s i) (n := n) (by omega) h'; rw [hdt] at hz2)) <;> (try (have hne : n = 1000 := (by omega); subst hne; rw [drvF_end] at hz2; have hz2' : drv p q g s i = 0 := hz2.symm; have hvd : decide ((0 : Int) < 0) = false := (by decide); replace hL := And.intro hz2' (And.intro hvd hL))))
    | (with_reducible refine AWp.skipS ?_)
    | ((with_reducible refine AWp.condT rfl ?_))
    | ((with_reducible refine AWp.condF rfl ?_))
    | (with_reducible refine AWp.condB rfl ?_)
    | (with_reducible refine AWp.ret ?_)
    | (with_reducible refine seqQ_n ?_)
    | (with_reducible refine seqQ_ret ?_)
    | (with_reducible refine blkQ_ret ?_)
    | (with_reducible refine blkQ_n ?_)
    | (with_reducible refine seqQ_exit ?_)
    | (with_reducible refine blkQ_exit ?_)
    | (with_reducible refine blkQ_other (by decide) ?_)
    | (with_reducible refine AWp.block ?_)
    | (with_reducible refine AWp.exit ?_)
    | (with_reducible refine AWp.skip ?_)
    | ((with_reducible refine loop_id ?_); refine AWp.loopAt 2 rfl ?_; refine AWp.loopO [6, 7, 8, 9, 10, 11, 12, 13, 14, 15, 16, 17, 18, 19, 20, 21, 22, 23, 24, 25, 26, 27, 28, 29, 30, 31, 32, 33, 34, 35, 36, 37, 38, 39, 40, 41, 42] (fun n => [(7, .lit (.int .i64 (n : Nat)))]) (fun n => []) (fun n => n ≤ 1000 ∧ drvF (hV p q g s i) (1000 - n) n = drv p q g s i) (fun n => 1000 - n) 0 (by exact ⟨by omega, rfl⟩) (by refine Sub.auto (by first | exact frok0 | assumption) rfl rfl ?_ ?_ <;> (try simp only [subE, AS.over2, without, keys, look, List.cons_append, List.nil_append, List.append_nil, List.mem_cons, List.not_mem_nil, or_false, or_true, true_or, false_or, Nat.reduceEqDiff, ↓reduceIte, Option.some.injEq, AV.lit.injEq, Value.int.injEq, Value.bool.injEq, AV.own.injEq, AO.row.injEq, AO.box.injEq, List.cons.injEq, AV.agg.injEq, AV.sl.injEq, true_and, and_true, and_self, heq_eq_eq, List.length_nil, List.length_cons, List.map_nil, List.take_zero, Int.natCast_add, Int.cast_ofNat_Int, Int.natCast_zero, List.length_append, List.length_map, List.length_take, Nat.zero_add]) <;> ((repeat' apply And.intro) <;> first | rfl | (simp; done))) (fun n hn_2 L2 hLoop2 => ?_); obtain ⟨hz1, hz2⟩ := hn_2; have hha := hV_arg hG (s := s) (i := i) (n := (n : Int)); obtain ⟨⟨ha1, ha2⟩, ⟨ha3, ha4⟩, ⟨ha5, ha6⟩⟩ := hha)
    | ((with_reducible refine seqQ_f ?_); refine hLoop2 (n + 1) _ (by exact ⟨by omega, hz2⟩) (by omega) ?_; (refine Sub.auto (by first | exact frok0 | assumption) rfl rfl ?_ ?_ <;> (try simp only [subE, AS.over2, without, keys, look, List.cons_append, List.nil_append, List.append_nil, List.mem_cons, List.not_mem_nil, or_false, or_true, true_or, false_or, Nat.reduceEqDiff, ↓reduceIte, Option.some.injEq, AV.lit.injEq, Value.int.injEq, Value.bool.injEq, AV.own.injEq, AO.row.injEq, AO.box.injEq, List.cons.injEq, AV.agg.injEq, AV.sl.injEq, true_and, and_true, and_self, heq_eq_eq, List.length_nil, List.length_cons, List.map_nil, List.take_zero, Int.natCast_add, Int.cast_ofNat_Int, Int.natCast_zero, List.length_append, List.length_map, List.length_take, Nat.zero_add]) <;> ((repeat' apply And.intro) <;> first | rfl | omega)))
    | ((with_reducible refine EndsAt_id ?_); (try subst_vars); (try simp only [id_eq, hL, List.length_cons, List.length_nil, Nat.zero_add, Nat.reduceAdd, Bool.and_true, Bool.and_false, Bool.true_and, Bool.false_and, Bool.and_self, ↓reduceIte, Bool.false_eq_true, Bool.not_true, Bool.not_false, bne]); refine EndsAt.done [] (by first | exact .inr rfl | exact .inl rfl) rfl rfl ?_ ?_ <;> first | decide | (repeat' (first | rfl | apply And.intro | trivial)))
    | (with_reducible refine AWp.seq ?_)⟩
noncomputable def c_l3Digest : Con0 := conF [.int] fun (⟨n, _⟩ : Int × Unit) => (True, .lit (.bool (inr n 0 4611686018427387903)), [])
noncomputable def G_l3Digest : List (FuncId × Con) := [(69, mk c_l1In)]
theorem G_l3Digest_ok : ∀ f C, (f, C) ∈ G_l3Digest → C.ok Try.prog f := by
  intro f C h
  simp only [G_l3Digest, List.mem_cons, Prod.mk.injEq, List.not_mem_nil, or_false] at h
  obtain ⟨rfl, rfl⟩ := h
  exact ok_l1In
set_option maxRecDepth 100000 in
set_option maxHeartbeats 4000000 in
theorem ok_l3Digest : (mk c_l3Digest).ok Try.prog 124 := okF (Θ := Th) (N := 5) (rs := [.tmp 2]) Th_ok Try.func124 (by kernel_rfl) rfl Try.results124 (by decide) (by kernel_rfl) fun (⟨n, _⟩ : Int × Unit) => ⟨rfl, rfl, Nat.le_of_ble_eq_true rfl, fun hc w0 => by
  have hL := dmy_eq
  try dsimp only at hc
  try dsimp only
  refine AWp.body rfl ?_
  repeat' first
    | ((with_reducible refine hK _ _ ?_); clear hK K)
    | ((with_reducible refine hK _ _ (by kernel_rfl) ?_); clear hK K)
    | ((with_reducible refine AWp.pS Th_ok G_l3Digest_ok [0, 2] (by decide) ?_); intro K hK)
    | ((with_reducible refine AWp.dS (by kernel_rfl) Th_ok G_l3Digest_ok [0, 2] ?_); intro K hK)
    | ((with_reducible refine AWp.pE Th_ok G_l3Digest_ok [0, 2] (by decide) ?_); intro K hK)
    | ((with_reducible refine AWp.dE (by kernel_rfl) Th_ok G_l3Digest_ok [0, 2] ?_); intro K hK)
    | ((first | with_reducible refine runF_id ?_ | with_reducible refine stepF_id ?_); simp (maxSteps := 2000000) only [runF, stepF, forkOf, gdOf, List.toList_toArray, stepOp, look, opAV, pureOp, callOp, memOp, AS.ev, AS.get, AS.obj, initS, initFrom, AV.cells, AS.upd, Option.bind_some, Option.bind_none, Option.map_some, Option.map_none, Option.getD_none, Option.getD_some, ↓reduceIte, Nat.reduceEqDiff, Nat.reduceAdd, Nat.reduceMul, Nat.reduceSub, List.nil_append, List.append_nil, List.cons_append, List.map_cons, List.map_nil, true_and, and_true, AS.fin, pick, dedup, List.mem_cons, List.not_mem_nil, or_false, false_or, List.size_toArray, List.length_cons, List.length_nil, loadAV, List.drop_zero, List.drop_succ_cons, List.take_zero, List.take_succ_cons, List.getElem?_cons_zero, List.getElem?_cons_succ, List.head?_cons, List.mapM_cons, List.mapM_nil, Option.bind_eq_bind, Option.pure_def, deeps3, deep3, deep2, deep1, deeps, deeps2, mixInts, AV.plain, mk, mkD, DCon.lift, DCon.runC, ren3, ren2, ren1, numb, List.zipIdx_nil, List.zipIdx_cons, List.all_nil, List.all_cons, Nat.reduceLeDiff, List.range, List.range.loop, Ty.sz, beq_self_eq_true, Bool.and_self, and_self, Ty.ofC, AO.isDead, Nat.reduceLT, if_true, Nat.zero_add, Nat.add_zero, ite_true, Nat.le_refl, Bool.false_eq_true, reduceCtorEq, if_false, ite_false, binAV, AO.ren, AV.isCell, fillAV, List.set_cons_zero, List.set_cons_succ, Ty.cells, Ty.flat, Ty.dflt, List.getD_cons_zero, List.getD_cons_succ, Int.reduceToNat, Int.reduceSub, Int.reduceAdd, Int.reduceMul, Int.reduceNeg, forall_eq_or_imp, forall_eq, gdL, id_eq, Nat.lt_irrefl, srcOf, List.replicate_succ, List.replicate_zero, dite_true, List.isEmpty_cons, Option.isSome_some, List.length_append, List.length_singleton, bne_self_eq_false, Bool.not_true, Bool.not_false, conF, asArgs, asArg, asTy, asI1, asB1, asS1, asL1, canons, canon, Fork.true_, Fork.false_, bne, Bool.not_not, List.length_map, pickO, AS.over, TI.bl, bne_iff_ne, AS.over2, without, keys, List.mem_singleton, memOp2, memOp3, absorb, abInt, abBool, abStr, abList, gones, Int.toNat_natCast, List.take_length, subE, List.nodup_cons, List.nodup_nil, not_false_eq_true, Nat.sub_self, conR, asG, asI, asBo, asStr, asIs, asBs, asE4, asI2, asI3, asLL, asLLL, Th_int, Th_bool, G_l3Digest, c_l1In, hL])
    | ((with_reducible refine ens_step ?_ (fun hE => ?_)); · ((repeat' with_reducible apply And.intro) <;> first | with_reducible assumption | omega | exact True.intro | with_reducible rfl | (show ByteArray.size _ ≤ _; decide) | (simp; done) | (simp; omega) | rfl))
    | ((with_reducible refine And.intro ?_ ?_); · ((repeat' with_reducible apply And.intro) <;> first | with_reducible assumption | omega | exact True.intro | with_reducible rfl | (show ByteArray.size _ ≤ _; decide) | (simp; done) | (simp; omega) | rfl))
    | ((with_reducible refine Fork.intro (fun h' => ?_) (fun h' => ?_)) <;> (try simp only [Bool.not_eq_true', Bool.not_eq_false', bne] at h') <;> (replace hL := And.intro h' hL) <;> (try simp only [decide_eq_true_eq, decide_eq_false_iff_not, beq_iff_eq, beq_eq_false_iff_ne, ne_eq] at h'))
    | (with_reducible refine AWp.skipS ?_)
    | ((with_reducible refine AWp.condT rfl ?_))
    | ((with_reducible refine AWp.condF rfl ?_))
    | (with_reducible refine AWp.condB rfl ?_)
    | (with_reducible refine AWp.ret ?_)
    | (with_reducible refine seqQ_n ?_)
    | (with_reducible refine seqQ_ret ?_)
    | (with_reducible refine blkQ_ret ?_)
    | (with_reducible refine blkQ_n ?_)
    | (with_reducible refine seqQ_exit ?_)
    | (with_reducible refine blkQ_exit ?_)
    | (with_reducible refine blkQ_other (by decide) ?_)
    | (with_reducible refine AWp.block ?_)
    | (with_reducible refine AWp.exit ?_)
    | (with_reducible refine AWp.skip ?_)
    | ((with_reducible refine EndsAt_id ?_); (try subst_vars); refine EndsAt.done [] (by first | exact .inr rfl | exact .inl rfl) rfl rfl ?_ ?_ <;> first | decide | (repeat' (first | rfl | apply And.intro | trivial)))
    | (with_reducible refine AWp.seq ?_)⟩
noncomputable def c_DeriveElement : Con0 := conF [(.pair .int (.pair .int .int)), .str, .int] fun (⟨⟨p, q, g⟩, s, i, _⟩ : (Int × Int × Int) × ByteArray × Int × Unit) => (M.Grp p q g ∧ s.size ≤ 40 ∧ (0 ≤ i ∧ i ≤ 4611686018427387903), .tup [.lit (.int .i64 (drv p q g s i)), .lit (.bool (decide (0 < (drv p q g s i))))], [])
noncomputable def G_DeriveElement : List (FuncId × Con) := [(60, mk c_l2Good), (124, mk c_l3Digest), (125, mk c_hDerived)]
theorem G_DeriveElement_ok : ∀ f C, (f, C) ∈ G_DeriveElement → C.ok Try.prog f := by
  intro f C h
  simp only [G_DeriveElement, List.mem_cons, Prod.mk.injEq, List.not_mem_nil, or_false] at h
  rcases h with ⟨rfl, rfl⟩ | ⟨rfl, rfl⟩ | ⟨rfl, rfl⟩
  · exact ok_l2Good
  · exact ok_l3Digest
  · exact ok_hDerived
set_option maxRecDepth 100000 in
set_option maxHeartbeats 4000000 in
theorem ok_DeriveElement : (mk c_DeriveElement).ok Try.prog 70 := okF (Θ := Th) (N := 29) (rs := [.tmp 6, .tmp 7]) Th_ok Try.func70 (by kernel_rfl) rfl Try.results70 (by decide) (by kernel_rfl) fun (⟨⟨p, q, g⟩, s, i, _⟩ : (Int × Int × Int) × ByteArray × Int × Unit) => ⟨rfl, rfl, Nat.le_of_ble_eq_true rfl, fun hc w0 => by
  have hL := dmy_eq
  try dsimp only at hc
  try dsimp only
  obtain ⟨hG, hsz, hi⟩ := hc
  have hq2 := hG.q2
  have hqp := hG.qp
  have hp3 := hG.p3
  have hpM := hG.pM
  have hgb : 0 ≤ g ∧ g < p := ⟨by have := hG.g2; omega, hG.gp⟩
  have hdb := drv_bd hG (s := s) (i := i)
  have hgt := M.goodB_mk hG
  have hst : decide (40 < (s.size : Int)) = false := decide_eq_false (by omega)
  have hit := inr_mk (n := i) (lo := 0) (hi := 4611686018427387903) hi
  replace hL := And.intro hgt (And.intro hst (And.intro hit hL))
  refine AWp.body rfl ?_
  repeat' first
    | ((with_reducible refine hK _ _ ?_); clear hK K)
    | ((with_reducible refine hK _ _ (by kernel_rfl) ?_); clear hK K)
    | ((with_reducible refine AWp.pS Th_ok G_DeriveElement_ok [0, 1, 2, 3, 6, 7, 8, 21] (by decide) ?_); intro K hK)
    | ((with_reducible refine AWp.dS (by kernel_rfl) Th_ok G_DeriveElement_ok [0, 1, 2, 3, 6, 7, 8, 21] ?_); intro K hK)
    | ((with_reducible refine AWp.pE Th_ok G_DeriveElement_ok [0, 1, 2, 3, 6, 7, 8, 21] (by decide) ?_); intro K hK)
    | ((with_reducible refine AWp.dE (by kernel_rfl) Th_ok G_DeriveElement_ok [0, 1, 2, 3, 6, 7, 8, 21] ?_); intro K hK)
    | ((first | with_reducible refine runF_id ?_ | with_reducible refine stepF_id ?_); simp (maxSteps := 2000000) only [runF, stepF, forkOf, gdOf, List.toList_toArray, stepOp, look, opAV, pureOp, callOp, memOp, AS.ev, AS.get, AS.obj, initS, initFrom, AV.cells, AS.upd, Option.bind_some, Option.bind_none, Option.map_some, Option.map_none, Option.getD_none, Option.getD_some, ↓reduceIte, Nat.reduceEqDiff, Nat.reduceAdd, Nat.reduceMul, Nat.reduceSub, List.nil_append, List.append_nil, List.cons_append, List.map_cons, List.map_nil, true_and, and_true, AS.fin, pick, dedup, List.mem_cons, List.not_mem_nil, or_false, false_or, List.size_toArray, List.length_cons, List.length_nil, loadAV, List.drop_zero, List.drop_succ_cons, List.take_zero, List.take_succ_cons, List.getElem?_cons_zero, List.getElem?_cons_succ, List.head?_cons, List.mapM_cons, List.mapM_nil, Option.bind_eq_bind, Option.pure_def, deeps3, deep3, deep2, deep1, deeps, deeps2, mixInts, AV.plain, mk, mkD, DCon.lift, DCon.runC, ren3, ren2, ren1, numb, List.zipIdx_nil, List.zipIdx_cons, List.all_nil, List.all_cons, Nat.reduceLeDiff, List.range, List.range.loop, Ty.sz, beq_self_eq_true, Bool.and_self, and_self, Ty.ofC, AO.isDead, Nat.reduceLT, if_true, Nat.zero_add, Nat.add_zero, ite_true, Nat.le_refl, Bool.false_eq_true, reduceCtorEq, if_false, ite_false, binAV, AO.ren, AV.isCell, fillAV, List.set_cons_zero, List.set_cons_succ, Ty.cells, Ty.flat, Ty.dflt, List.getD_cons_zero, List.getD_cons_succ, Int.reduceToNat, Int.reduceSub, Int.reduceAdd, Int.reduceMul, Int.reduceNeg, forall_eq_or_imp, forall_eq, gdL, id_eq, Nat.lt_irrefl, srcOf, List.replicate_succ, List.replicate_zero, dite_true, List.isEmpty_cons, Option.isSome_some, List.length_append, List.length_singleton, bne_self_eq_false, Bool.not_true, Bool.not_false, conF, asArgs, asArg, asTy, asI1, asB1, asS1, asL1, canons, canon, Fork.true_, Fork.false_, bne, Bool.not_not, List.length_map, pickO, AS.over, TI.bl, bne_iff_ne, AS.over2, without, keys, List.mem_singleton, memOp2, memOp3, absorb, abInt, abBool, abStr, abList, gones, Int.toNat_natCast, List.take_length, subE, List.nodup_cons, List.nodup_nil, not_false_eq_true, Nat.sub_self, conR, asG, asI, asBo, asStr, asIs, asBs, asE4, asI2, asI3, asLL, asLLL, Th_int, Th_bool, Th_implGroup, Th_lawsEqualLog, Th_lawsGroup, Th_string, G_DeriveElement, c_l2Good, c_l3Digest, c_hDerived, hL])
    | ((with_reducible refine ens_step ?_ (fun hE => ?_)); · ((repeat' with_reducible apply And.intro) <;> first | with_reducible assumption | omega | exact True.intro | with_reducible rfl | (show ByteArray.size _ ≤ _; decide) | (simp; done) | (simp; omega) | rfl))
    | ((with_reducible refine And.intro ?_ ?_); · ((repeat' with_reducible apply And.intro) <;> first | with_reducible assumption | omega | exact True.intro | with_reducible rfl | (show ByteArray.size _ ≤ _; decide) | (simp; done) | (simp; omega) | rfl))
    | ((with_reducible refine Fork.intro (fun h' => ?_) (fun h' => ?_)) <;> (try simp only [Bool.not_eq_true', Bool.not_eq_false', bne] at h') <;> (replace hL := And.intro h' hL) <;> (try simp only [decide_eq_true_eq, decide_eq_false_iff_not, beq_iff_eq, beq_eq_false_iff_ne, ne_eq] at h'))
    | (with_reducible refine AWp.skipS ?_)
    | ((with_reducible refine AWp.condT rfl ?_))
    | ((with_reducible refine AWp.condF rfl ?_))
    | (with_reducible refine AWp.condB rfl ?_)
    | (with_reducible refine AWp.ret ?_)
    | (with_reducible refine seqQ_n ?_)
    | (with_reducible refine seqQ_ret ?_)
    | (with_reducible refine blkQ_ret ?_)
    | (with_reducible refine blkQ_n ?_)
    | (with_reducible refine seqQ_exit ?_)
    | (with_reducible refine blkQ_exit ?_)
    | (with_reducible refine blkQ_other (by decide) ?_)
    | (with_reducible refine AWp.block ?_)
    | (with_reducible refine AWp.exit ?_)
    | (with_reducible refine AWp.skip ?_)
    | ((with_reducible refine EndsAt_id ?_); (try subst_vars); (try simp only [id_eq, hL, List.length_cons, List.length_nil, Nat.zero_add, Nat.reduceAdd, Bool.and_true, Bool.and_false, Bool.true_and, Bool.false_and, Bool.and_self, ↓reduceIte, Bool.false_eq_true, Bool.not_true, Bool.not_false, bne]); refine EndsAt.done [] (by first | exact .inr rfl | exact .inl rfl) rfl rfl ?_ ?_ <;> first | decide | (repeat' (first | rfl | apply And.intro | trivial)))
    | (with_reducible refine AWp.seq ?_)⟩
noncomputable def dsV (p q g : Int) (s : ByteArray) (n : Int) : List Int := if okDs p q g s n.toNat = true then drvs p q g s n.toNat else []
theorem dsV_f {p q g : Int} {s : ByteArray} {n : Int} (h : okDs p q g s n.toNat = false) : dsV p q g s n = [] := by unfold dsV; rw [h]; rfl
theorem dsV_t {p q g : Int} {s : ByteArray} {n : Int} (h : okDs p q g s n.toNat = true) : dsV p q g s n = drvs p q g s n.toNat := by unfold dsV; rw [h]; rfl
noncomputable def c_DeriveElements : Con0 := conF [(.pair .int (.pair .int .int)), .str, .int] fun (⟨⟨p, q, g⟩, s, n, _⟩ : (Int × Int × Int) × ByteArray × Int × Unit) => (M.Grp p q g ∧ s.size ≤ 40 ∧ (0 ≤ n ∧ n ≤ 100), .tup [.own 0 (dsV p q g s n).length, .lit (.bool (okDs p q g s n.toNat))], [.row 3 .int (dsV p q g s n)])
noncomputable def G_DeriveElements : List (FuncId × Con) := [(60, mk c_l2Good), (69, mk c_l1In), (125, mk c_hDerived)]
theorem G_DeriveElements_ok : ∀ f C, (f, C) ∈ G_DeriveElements → C.ok Try.prog f := by
  intro f C h
  simp only [G_DeriveElements, List.mem_cons, Prod.mk.injEq, List.not_mem_nil, or_false] at h
  rcases h with ⟨rfl, rfl⟩ | ⟨rfl, rfl⟩ | ⟨rfl, rfl⟩
  · exact ok_l2Good
  · exact ok_l1In
  · exact ok_hDerived
set_option maxRecDepth 100000 in
set_option maxHeartbeats 4000000 in
theorem ok_DeriveElements : (mk c_DeriveElements).ok Try.prog 71 := okF (Θ := Th) (N := 40) (rs := [.tmp 6, .tmp 7]) Th_ok Try.func71 (by kernel_rfl) rfl Try.results71 (by decide) (by kernel_rfl) fun (⟨⟨p, q, g⟩, s, n, _⟩ : (Int × Int × Int) × ByteArray × Int × Unit) => ⟨rfl, rfl, Nat.le_of_ble_eq_true rfl, fun hc w0 => by
  have hL := dmy_eq
  try dsimp only at hc
  try dsimp only
  obtain ⟨hG, hsz, hi⟩ := hc
  have hq2 := hG.q2
  have hqp := hG.qp
  have hp3 := hG.p3
  have hpM := hG.pM
  have hgb : 0 ≤ g ∧ g < p := ⟨by have := hG.g2; omega, hG.gp⟩
  have hgt := M.goodB_mk hG
  have hst : decide (40 < (s.size : Int)) = false := decide_eq_false (by omega)
  have hit := inr_mk (n := n) (lo := 0) (hi := 100) hi
  replace hL := And.intro hgt (And.intro hst (And.intro hit hL))
  have hnt : ((n.toNat : Nat) : Int) = n := by omega
  refine AWp.body rfl ?_
  repeat' first
    | ((with_reducible refine hK _ _ ?_); clear hK K)
    | ((with_reducible refine hK _ _ (by kernel_rfl) ?_); clear hK K)
    | ((with_reducible refine AWp.pS Th_ok G_DeriveElements_ok [0, 1, 2, 3, 6, 7, 8, 9, 10, 23, 26, 34] (by decide) ?_); intro K hK)
    | ((with_reducible refine AWp.dS (by kernel_rfl) Th_ok G_DeriveElements_ok [0, 1, 2, 3, 6, 7, 8, 9, 10, 23, 26, 34] ?_); intro K hK)
    | ((with_reducible refine AWp.pE Th_ok G_DeriveElements_ok [0, 1, 2, 3, 6, 7, 8, 9, 10, 23, 26, 34] (by decide) ?_); intro K hK)
    | ((with_reducible refine AWp.dE (by kernel_rfl) Th_ok G_DeriveElements_ok [0, 1, 2, 3, 6, 7, 8, 9, 10, 23, 26, 34] ?_); intro K hK)
    | ((first | with_reducible refine runF_id ?_ | with_reducible refine stepF_id ?_); simp (maxSteps := 2000000) only [runF, stepF, forkOf, gdOf, List.toList_toArray, stepOp, look, opAV, pureOp, callOp, memOp, AS.ev, AS.get, AS.obj, initS, initFrom, AV.cells, AS.upd, Option.bind_some, Option.bind_none, Option.map_some, Option.map_none, Option.getD_none, Option.getD_some, ↓reduceIte, Nat.reduceEqDiff, Nat.reduceAdd, Nat.reduceMul, Nat.reduceSub, List.nil_append, List.append_nil, List.cons_append, List.map_cons, List.map_nil, true_and, and_true, AS.fin, pick, dedup, List.mem_cons, List.not_mem_nil, or_false, false_or, List.size_toArray, List.length_cons, List.length_nil, loadAV, List.drop_zero, List.drop_succ_cons, List.take_zero, List.take_succ_cons, List.getElem?_cons_zero, List.getElem?_cons_succ, List.head?_cons, List.mapM_cons, List.mapM_nil, Option.bind_eq_bind, Option.pure_def, deeps3, deep3, deep2, deep1, deeps, deeps2, mixInts, AV.plain, mk, mkD, DCon.lift, DCon.runC, ren3, ren2, ren1, numb, List.zipIdx_nil, List.zipIdx_cons, List.all_nil, List.all_cons, Nat.reduceLeDiff, List.range, List.range.loop, Ty.sz, beq_self_eq_true, Bool.and_self, and_self, Ty.ofC, AO.isDead, Nat.reduceLT, if_true, Nat.zero_add, Nat.add_zero, ite_true, Nat.le_refl, Bool.false_eq_true, reduceCtorEq, if_false, ite_false, binAV, AO.ren, AV.isCell, fillAV, List.set_cons_zero, List.set_cons_succ, Ty.cells, Ty.flat, Ty.dflt, List.getD_cons_zero, List.getD_cons_succ, Int.reduceToNat, Int.reduceSub, Int.reduceAdd, Int.reduceMul, Int.reduceNeg, forall_eq_or_imp, forall_eq, gdL, id_eq, Nat.lt_irrefl, srcOf, List.replicate_succ, List.replicate_zero, dite_true, List.isEmpty_cons, Option.isSome_some, List.length_append, List.length_singleton, bne_self_eq_false, Bool.not_true, Bool.not_false, conF, asArgs, asArg, asTy, asI1, asB1, asS1, asL1, canons, canon, Fork.true_, Fork.false_, bne, Bool.not_not, List.length_map, pickO, AS.over, TI.bl, bne_iff_ne, AS.over2, without, keys, List.mem_singleton, memOp2, memOp3, absorb, abInt, abBool, abStr, abList, gones, Int.toNat_natCast, List.take_length, subE, List.nodup_cons, List.nodup_nil, not_false_eq_true, Nat.sub_self, conR, asG, asI, asBo, asStr, asIs, asBs, asE4, asI2, asI3, asLL, asLLL, Th_int, Th_Sint, Th_bool, Th_implBases, Th_implEqualLog, Th_implGroup, Th_lawsEqualLog, Th_string, G_DeriveElements, c_l2Good, c_l1In, c_hDerived, hL])
    | ((with_reducible refine ens_step ?_ (fun hE => ?_)); · ((repeat' with_reducible apply And.intro) <;> first | with_reducible assumption | omega | exact True.intro | with_reducible rfl | (show ByteArray.size _ ≤ _; decide) | (simp; done) | (simp; omega) | rfl))
    | ((with_reducible refine And.intro ?_ ?_); · ((repeat' with_reducible apply And.intro) <;> first | with_reducible assumption | omega | exact True.intro | with_reducible rfl | (show ByteArray.size _ ≤ _; decide) | (simp; done) | (simp; omega) | rfl))
    | ((with_reducible refine Fork.intro (fun h' => ?_) (fun h' => ?_)) <;> (try simp only [Bool.not_eq_true', Bool.not_eq_false', bne] at h') <;> (replace hL := And.intro h' hL) <;> (try simp only [decide_eq_true_eq, decide_eq_false_iff_not, beq_iff_eq, beq_eq_false_iff_ne, ne_eq] at h') <;> (try (have hdz : drv p q g s k = 0 := h'; have hno := okDs_no (n := n.toNat) (by omega) hdz; have hdv := dsV_f hno; replace hL := And.intro hno (And.intro hdv hL))) <;> (try (have hdp : 0 < drv p q g s k := (by have hnz : ¬ drv p q g s k = 0 := h'; omega); have hdd := decide_eq_true hdp; have hkn := okDs_t hz2; rw [hdd] at hkn)) <;> (try (have hkn2 : k = n.toNat := (by omega); subst hkn2; have hdv := dsV_t hz2; replace hL := And.intro hz2 (And.intro hdv hL))))
    | (with_reducible refine AWp.skipS ?_)
    | ((with_reducible refine AWp.condT rfl ?_))
    | ((with_reducible refine AWp.condF rfl ?_))
    | (with_reducible refine AWp.condB rfl ?_)
    | ((with_reducible refine AWp.ret_id ?_); refine AWp.sub (Sub.nilSlot 6 200006 3 .int rfl rfl) ?_)
    | (with_reducible refine AWp.ret ?_)
    | (with_reducible refine seqQ_n ?_)
    | (with_reducible refine seqQ_ret ?_)
    | (with_reducible refine blkQ_ret ?_)
    | (with_reducible refine blkQ_n ?_)
    | (with_reducible refine seqQ_exit ?_)
    | (with_reducible refine blkQ_exit ?_)
    | (with_reducible refine blkQ_other (by decide) ?_)
    | (with_reducible refine AWp.block ?_)
    | (with_reducible refine AWp.exit ?_)
    | (with_reducible refine AWp.skip ?_)
    | ((with_reducible refine loop_id ?_); refine AWp.loopAt 5 rfl ?_; refine AWp.sub (Sub.nilSlot 8 300008 3 .int rfl rfl) ?_; refine AWp.loopO [6, 7, 8, 9, 10, 24, 25, 26, 27, 28, 29, 30, 31, 32, 33, 34, 35, 36, 37, 38] (fun k => [(9, .lit (.int .i64 (k : Nat))), (8, .own 300008 k)]) (fun k => [(300008, .row 3 .int (drvs p q g s k))]) (fun k => k ≤ n.toNat ∧ okDs p q g s k = true) (fun k => n.toNat - k) 0 (by exact ⟨by omega, rfl⟩) (by refine Sub.auto (by first | exact frok0 | assumption) rfl rfl ?_ ?_ <;> (try simp only [subE, AS.over2, without, keys, look, List.cons_append, List.nil_append, List.append_nil, List.mem_cons, List.not_mem_nil, or_false, or_true, true_or, false_or, Nat.reduceEqDiff, ↓reduceIte, Option.some.injEq, AV.lit.injEq, Value.int.injEq, Value.bool.injEq, AV.own.injEq, AO.row.injEq, AO.box.injEq, List.cons.injEq, AV.agg.injEq, AV.sl.injEq, true_and, and_true, and_self, heq_eq_eq, List.length_nil, List.length_cons, List.map_nil, List.take_zero, Int.natCast_add, Int.cast_ofNat_Int, Int.natCast_zero, List.length_append, List.length_map, List.length_take, Nat.zero_add]) <;> ((repeat' apply And.intro) <;> first | rfl | (simp [drvs]; done))) (fun k hk_5 L5 hLoop5 => ?_); obtain ⟨hz1, hz2⟩ := hk_5; have hdb := drv_bd hG (s := s) (i := (k : Int)); have hdl := drvs_len (p := p) (q := q) (g := g) (s := s) (k := k))
    | ((with_reducible refine seqQ_f ?_); refine hLoop5 (k + 1) _ (by exact ⟨by omega, hkn⟩) (by omega) ?_; (refine Sub.auto (by first | exact frok0 | assumption) rfl rfl ?_ ?_ <;> (try simp only [subE, AS.over2, without, keys, look, List.cons_append, List.nil_append, List.append_nil, List.mem_cons, List.not_mem_nil, or_false, or_true, true_or, false_or, Nat.reduceEqDiff, ↓reduceIte, Option.some.injEq, AV.lit.injEq, Value.int.injEq, Value.bool.injEq, AV.own.injEq, AO.row.injEq, AO.box.injEq, List.cons.injEq, AV.agg.injEq, AV.sl.injEq, true_and, and_true, and_self, heq_eq_eq, List.length_nil, List.length_cons, List.map_nil, List.take_zero, Int.natCast_add, Int.cast_ofNat_Int, Int.natCast_zero, List.length_append, List.length_map, List.length_take, Nat.zero_add]) <;> ((repeat' apply And.intro) <;> first | rfl | omega | exact drvs_step | (simp [drvs_len]; done))))
    | ((with_reducible refine EndsAt_id ?_); (try subst_vars); (try simp only [drvs_len, hL, List.length_cons, List.length_nil, Nat.zero_add, Nat.reduceAdd, Bool.and_true, Bool.and_false, Bool.true_and, Bool.false_and, Bool.and_self, ↓reduceIte, Bool.false_eq_true, Bool.not_true, Bool.not_false, bne]); refine EndsAt.done [_] (by first | exact .inr rfl | exact .inl rfl) rfl rfl ?_ ?_ <;> first | decide | (repeat' (first | rfl | apply And.intro | trivial)))
    | (with_reducible refine AWp.seq ?_)⟩
noncomputable def okBo (p q g n : Int) : Bool := decide (0 < drv p q g (ByteArray.mk #[104]) 0) && okDs p q g (ByteArray.mk #[104, 115]) n.toNat
noncomputable def boV (p q g n : Int) : Int × List Int := if okBo p q g n = true then (drv p q g (ByteArray.mk #[104]) 0, drvs p q g (ByteArray.mk #[104, 115]) n.toNat) else (0, [])
noncomputable def okBs (p q g n : Int) : Bool := M.goodB p q g && inr n 0 24 && okBo p q g n
noncomputable def bsV (p q g n : Int) : Int × List Int := if okBs p q g n = true then boV p q g n else (0, [])
theorem bsV_g {p q g n : Int} (h : M.goodB p q g = false) : bsV p q g n = (0, []) ∧ okBs p q g n = false := by
  have e : okBs p q g n = false := by simp [okBs, h]
  exact ⟨by unfold bsV; rw [e]; rfl, e⟩
theorem bsV_i {p q g n : Int} (h : inr n 0 24 = false) : bsV p q g n = (0, []) ∧ okBs p q g n = false := by
  have e : okBs p q g n = false := by simp [okBs, h]
  exact ⟨by unfold bsV; rw [e]; rfl, e⟩
theorem bsV_t {p q g n : Int} (hG : M.Grp p q g) (h : inr n 0 24 = true) : bsV p q g n = boV p q g n ∧ okBs p q g n = okBo p q g n := by
  have e : okBs p q g n = okBo p q g n := by simp [okBs, h, M.goodB_mk hG]
  refine ⟨?_, e⟩
  unfold bsV; rw [e]
  by_cases h2 : okBo p q g n = true
  · rw [if_pos h2]
  · rw [if_neg h2, boV, if_neg h2]
theorem bsV_le (p q g n : Int) : (bsV p q g n).2.length ≤ 24 := by
  unfold bsV; split
  · rename_i h
    simp only [okBs, Bool.and_eq_true] at h
    have h2 := inr_t h.1.2
    rw [boV, if_pos h.2]
    simp only [drvs_len]; omega
  · simp
noncomputable def c_basesOf : Con0 := conF [(.pair .int (.pair .int .int)), .int] fun (⟨⟨p, q, g⟩, n, _⟩ : (Int × Int × Int) × Int × Unit) => (M.Grp p q g ∧ (0 ≤ n ∧ n ≤ 24), .tup [.agg [.lit (.int .i64 (boV p q g n).1), .own 0 (boV p q g n).2.length], .lit (.bool (okBo p q g n))], [.row 3 .int (boV p q g n).2])
noncomputable def G_basesOf : List (FuncId × Con) := [(128, mk c_derive)]
theorem G_basesOf_ok : ∀ f C, (f, C) ∈ G_basesOf → C.ok Try.prog f := by
  intro f C h
  simp only [G_basesOf, List.mem_cons, Prod.mk.injEq, List.not_mem_nil, or_false] at h
  obtain ⟨rfl, rfl⟩ := h
  exact ok_derive
set_option maxRecDepth 100000 in
set_option maxHeartbeats 4000000 in
theorem ok_basesOf : (mk c_basesOf).ok Try.prog 74 := okF (Θ := Th) (N := 49) (rs := [.cell 4 35, .tmp 5]) Th_ok Try.func74 (by kernel_rfl) rfl Try.results74 (by decide) (by kernel_rfl) fun (⟨⟨p, q, g⟩, n, _⟩ : (Int × Int × Int) × Int × Unit) => ⟨rfl, rfl, Nat.le_of_ble_eq_true rfl, fun hc w0 => by
  have hL := dmy_eq
  try dsimp only at hc
  try dsimp only
  obtain ⟨hG, hi⟩ := hc
  have hq2 := hG.q2
  have hqp := hG.qp
  have hp3 := hG.p3
  have hpM := hG.pM
  have hgb : 0 ≤ g ∧ g < p := ⟨by have := hG.g2; omega, hG.gp⟩
  have hnt : ((n.toNat : Nat) : Int) = n := by omega
  refine AWp.body rfl ?_
  repeat' first
    | ((with_reducible refine hK _ _ ?_); clear hK K)
    | ((with_reducible refine hK _ _ (by kernel_rfl) ?_); clear hK K)
    | ((with_reducible refine AWp.pS Th_ok G_basesOf_ok [0, 1, 2, 4, 5, 6, 7, 8, 9, 10, 11, 12, 20, 21, 22, 46] (by decide) ?_); intro K hK)
    | ((with_reducible refine AWp.dS (by kernel_rfl) Th_ok G_basesOf_ok [0, 1, 2, 4, 5, 6, 7, 8, 9, 10, 11, 12, 20, 21, 22, 46] ?_); intro K hK)
    | ((with_reducible refine AWp.pE Th_ok G_basesOf_ok [0, 1, 2, 4, 5, 6, 7, 8, 9, 10, 11, 12, 20, 21, 22, 46] (by decide) ?_); intro K hK)
    | ((with_reducible refine AWp.dE (by kernel_rfl) Th_ok G_basesOf_ok [0, 1, 2, 4, 5, 6, 7, 8, 9, 10, 11, 12, 20, 21, 22, 46] ?_); intro K hK)
    | ((first | with_reducible refine runF_id ?_ | with_reducible refine stepF_id ?_); simp (maxSteps := 2000000) only [runF, stepF, forkOf, gdOf, List.toList_toArray, stepOp, look, opAV, pureOp, callOp, memOp, AS.ev, AS.get, AS.obj, initS, initFrom, AV.cells, AS.upd, Option.bind_some, Option.bind_none, Option.map_some, Option.map_none, Option.getD_none, Option.getD_some, ↓reduceIte, Nat.reduceEqDiff, Nat.reduceAdd, Nat.reduceMul, Nat.reduceSub, List.nil_append, List.append_nil, List.cons_append, List.map_cons, List.map_nil, true_and, and_true, AS.fin, pick, dedup, List.mem_cons, List.not_mem_nil, or_false, false_or, List.size_toArray, List.length_cons, List.length_nil, loadAV, List.drop_zero, List.drop_succ_cons, List.take_zero, List.take_succ_cons, List.getElem?_cons_zero, List.getElem?_cons_succ, List.head?_cons, List.mapM_cons, List.mapM_nil, Option.bind_eq_bind, Option.pure_def, deeps3, deep3, deep2, deep1, deeps, deeps2, mixInts, AV.plain, mk, mkD, DCon.lift, DCon.runC, ren3, ren2, ren1, numb, List.zipIdx_nil, List.zipIdx_cons, List.all_nil, List.all_cons, Nat.reduceLeDiff, List.range, List.range.loop, Ty.sz, beq_self_eq_true, Bool.and_self, and_self, Ty.ofC, AO.isDead, Nat.reduceLT, if_true, Nat.zero_add, Nat.add_zero, ite_true, Nat.le_refl, Bool.false_eq_true, reduceCtorEq, if_false, ite_false, binAV, AO.ren, AV.isCell, fillAV, List.set_cons_zero, List.set_cons_succ, Ty.cells, Ty.flat, Ty.dflt, List.getD_cons_zero, List.getD_cons_succ, Int.reduceToNat, Int.reduceSub, Int.reduceAdd, Int.reduceMul, Int.reduceNeg, forall_eq_or_imp, forall_eq, gdL, id_eq, Nat.lt_irrefl, srcOf, List.replicate_succ, List.replicate_zero, dite_true, List.isEmpty_cons, Option.isSome_some, List.length_append, List.length_singleton, bne_self_eq_false, Bool.not_true, Bool.not_false, conF, asArgs, asArg, asTy, asI1, asB1, asS1, asL1, canons, canon, Fork.true_, Fork.false_, bne, Bool.not_not, List.length_map, pickO, AS.over, TI.bl, bne_iff_ne, AS.over2, without, keys, List.mem_singleton, memOp2, memOp3, absorb, abInt, abBool, abStr, abList, gones, Int.toNat_natCast, List.take_length, subE, List.nodup_cons, List.nodup_nil, not_false_eq_true, Nat.sub_self, conR, asG, asI, asBo, asStr, asIs, asBs, asE4, asI2, asI3, asLL, asLLL, Th_int, Th_Sint, Th_bool, Th_implBases, Th_implDealing, Th_implEqualLog, Th_implGroup, Th_lawsEqualLog, Th_lawsGroup, Th_string, G_basesOf, c_derive, hL])
    | ((with_reducible refine ens_step ?_ (fun hE => ?_)); · ((repeat' with_reducible apply And.intro) <;> first | with_reducible assumption | omega | exact True.intro | with_reducible rfl | (show ByteArray.size _ ≤ _; decide) | (simp; done) | (simp; omega) | rfl))
    | ((with_reducible refine And.intro ?_ ?_); · ((repeat' with_reducible apply And.intro) <;> first | with_reducible assumption | omega | exact True.intro | with_reducible rfl | (show ByteArray.size _ ≤ _; decide) | (simp; done) | (simp; omega) | rfl))
    | ((with_reducible refine Fork.intro (fun h' => ?_) (fun h' => ?_)) <;> (try simp only [Bool.not_eq_true', Bool.not_eq_false', bne] at h') <;> (replace hL := And.intro h' hL) <;> (try simp only [decide_eq_true_eq, decide_eq_false_iff_not, beq_iff_eq, beq_eq_false_iff_ne, ne_eq] at h') <;> (try (have hkt := okDs_t h')) <;> (try (have hkf := okDs_f h')) <;> (try (have hke : k = n.toNat := (by omega); subst hke)))
    | (with_reducible refine AWp.skipS ?_)
    | ((with_reducible refine AWp.condT rfl ?_))
    | ((with_reducible refine AWp.condF rfl ?_))
    | (with_reducible refine AWp.condB rfl ?_)
    | ((with_reducible refine AWp.ret_id ?_); refine AWp.sub (Sub.nilBox 8 1 100001 3 .int rfl rfl rfl) ?_)
    | (with_reducible refine AWp.ret ?_)
    | (with_reducible refine seqQ_n ?_)
    | (with_reducible refine seqQ_ret ?_)
    | (with_reducible refine blkQ_ret ?_)
    | (with_reducible refine blkQ_n ?_)
    | (with_reducible refine seqQ_exit ?_)
    | (with_reducible refine blkQ_exit ?_)
    | (with_reducible refine blkQ_other (by decide) ?_)
    | (with_reducible refine AWp.block ?_)
    | (with_reducible refine AWp.exit ?_)
    | (with_reducible refine AWp.skip ?_)
    | ((with_reducible refine loop_id ?_); refine AWp.loopAt 4 rfl ?_; refine AWp.sub (Sub.nilBox 96 1 300100 3 .int rfl rfl rfl) ?_; refine AWp.loopO [9, 10, 11, 12, 21, 22, 23, 24, 25, 26, 27, 28, 29, 30, 31, 32, 33, 34, 35, 36, 37, 38, 39, 40] (fun k => [(21, .lit (.int .i64 (k : Nat))), (9, .lit (.bool (okDs p q g (ByteArray.mk #[104, 115]) k)))]) (fun k => [(96, .box 35 [.lit (.int .i64 (drv p q g (ByteArray.mk #[104]) 0)), .own 300100 k]), (300100, .row 3 .int (drvs p q g (ByteArray.mk #[104, 115]) k))]) (fun k => k ≤ n.toNat) (fun k => n.toNat - k) 0 (by omega) (by refine Sub.auto (by first | exact frok0 | assumption) rfl rfl ?_ ?_ <;> (try simp only [subE, AS.over2, without, keys, look, List.cons_append, List.nil_append, List.append_nil, List.mem_cons, List.not_mem_nil, or_false, or_true, true_or, false_or, Nat.reduceEqDiff, ↓reduceIte, Option.some.injEq, AV.lit.injEq, Value.int.injEq, Value.bool.injEq, AV.own.injEq, AO.row.injEq, AO.box.injEq, List.cons.injEq, AV.agg.injEq, AV.sl.injEq, true_and, and_true, and_self, heq_eq_eq, List.length_nil, List.length_cons, List.map_nil, List.take_zero, Int.natCast_add, Int.cast_ofNat_Int, Int.natCast_zero, List.length_append, List.length_map, List.length_take, Nat.zero_add]) <;> ((repeat' apply And.intro) <;> first | rfl | (simp [drvs, okDs]; done))) (fun k hk_4 L4 hLoop4 => ?_); have hdl := drvs_len (p := p) (q := q) (g := g) (s := (ByteArray.mk #[104, 115])) (k := k))
    | ((with_reducible refine seqQ_f ?_); refine hLoop4 (k + 1) _ (by omega) (by omega) ?_; (refine Sub.auto (by first | exact frok0 | assumption) rfl rfl ?_ ?_ <;> (try simp only [subE, AS.over2, without, keys, look, List.cons_append, List.nil_append, List.append_nil, List.mem_cons, List.not_mem_nil, or_false, or_true, true_or, false_or, Nat.reduceEqDiff, ↓reduceIte, Option.some.injEq, AV.lit.injEq, Value.int.injEq, Value.bool.injEq, AV.own.injEq, AO.row.injEq, AO.box.injEq, List.cons.injEq, AV.agg.injEq, AV.sl.injEq, true_and, and_true, and_self, heq_eq_eq, List.length_nil, List.length_cons, List.map_nil, List.take_zero, Int.natCast_add, Int.cast_ofNat_Int, Int.natCast_zero, List.length_append, List.length_map, List.length_take, Nat.zero_add]) <;> ((repeat' apply And.intro) <;> first | rfl | omega | exact drvs_step | exact hkt.symm | exact hkf.symm | (simp [drvs_len]; done))))
    | ((with_reducible refine EndsAt_id ?_); (try subst_vars); (try simp only [boV, okBo, drvs_len, hL, List.length_cons, List.length_nil, Nat.zero_add, Nat.reduceAdd, Bool.and_true, Bool.and_false, Bool.true_and, Bool.false_and, Bool.and_self, ↓reduceIte, Bool.false_eq_true, Bool.not_true, Bool.not_false, bne]); refine EndsAt.done [_] (by first | exact .inr rfl | exact .inl rfl) rfl rfl ?_ ?_ <;> first | decide | (repeat' (first | rfl | apply And.intro | trivial)))
    | (with_reducible refine AWp.seq ?_)⟩
noncomputable def c_BasesOfI : Con0 := conF [(.pair .int (.pair .int .int)), .int] fun (⟨⟨p, q, g⟩, n, _⟩ : (Int × Int × Int) × Int × Unit) => (True, .tup [.agg [.lit (.int .i64 (bsV p q g n).1), .own 0 (bsV p q g n).2.length], .lit (.bool (okBs p q g n))], [.row 3 .int (bsV p q g n).2])
noncomputable def G_BasesOfI : List (FuncId × Con) := [(72, mk c_isValidGroup), (73, mk c_within), (74, mk c_basesOf)]
theorem G_BasesOfI_ok : ∀ f C, (f, C) ∈ G_BasesOfI → C.ok Try.prog f := by
  intro f C h
  simp only [G_BasesOfI, List.mem_cons, Prod.mk.injEq, List.not_mem_nil, or_false] at h
  rcases h with ⟨rfl, rfl⟩ | ⟨rfl, rfl⟩ | ⟨rfl, rfl⟩
  · exact ok_isValidGroup
  · exact ok_within
  · exact ok_basesOf
set_option maxRecDepth 100000 in
set_option maxHeartbeats 4000000 in
theorem ok_BasesOfI : (mk c_BasesOfI).ok Try.prog 20 := okF (Θ := Th) (N := 20) (rs := [.cell 4 35, .tmp 5]) Th_ok Try.func20 (by kernel_rfl) rfl Try.results20 (by decide) (by kernel_rfl) fun (⟨⟨p, q, g⟩, n, _⟩ : (Int × Int × Int) × Int × Unit) => ⟨rfl, rfl, Nat.le_of_ble_eq_true rfl, fun hc w0 => by
  have hL := dmy_eq
  try dsimp only at hc
  try dsimp only
  refine AWp.body rfl ?_
  repeat' first
    | ((with_reducible refine hK _ _ ?_); clear hK K)
    | ((with_reducible refine hK _ _ (by kernel_rfl) ?_); clear hK K)
    | ((with_reducible refine AWp.pS Th_ok G_BasesOfI_ok [0, 1, 2, 4, 5, 13] (by decide) ?_); intro K hK)
    | ((with_reducible refine AWp.dS (by kernel_rfl) Th_ok G_BasesOfI_ok [0, 1, 2, 4, 5, 13] ?_); intro K hK)
    | ((with_reducible refine AWp.pE Th_ok G_BasesOfI_ok [0, 1, 2, 4, 5, 13] (by decide) ?_); intro K hK)
    | ((with_reducible refine AWp.dE (by kernel_rfl) Th_ok G_BasesOfI_ok [0, 1, 2, 4, 5, 13] ?_); intro K hK)
    | ((first | with_reducible refine runF_id ?_ | with_reducible refine stepF_id ?_); simp (maxSteps := 2000000) only [runF, stepF, forkOf, gdOf, List.toList_toArray, stepOp, look, opAV, pureOp, callOp, memOp, AS.ev, AS.get, AS.obj, initS, initFrom, AV.cells, AS.upd, Option.bind_some, Option.bind_none, Option.map_some, Option.map_none, Option.getD_none, Option.getD_some, ↓reduceIte, Nat.reduceEqDiff, Nat.reduceAdd, Nat.reduceMul, Nat.reduceSub, List.nil_append, List.append_nil, List.cons_append, List.map_cons, List.map_nil, true_and, and_true, AS.fin, pick, dedup, List.mem_cons, List.not_mem_nil, or_false, false_or, List.size_toArray, List.length_cons, List.length_nil, loadAV, List.drop_zero, List.drop_succ_cons, List.take_zero, List.take_succ_cons, List.getElem?_cons_zero, List.getElem?_cons_succ, List.head?_cons, List.mapM_cons, List.mapM_nil, Option.bind_eq_bind, Option.pure_def, deeps3, deep3, deep2, deep1, deeps, deeps2, mixInts, AV.plain, mk, mkD, DCon.lift, DCon.runC, ren3, ren2, ren1, numb, List.zipIdx_nil, List.zipIdx_cons, List.all_nil, List.all_cons, Nat.reduceLeDiff, List.range, List.range.loop, Ty.sz, beq_self_eq_true, Bool.and_self, and_self, Ty.ofC, AO.isDead, Nat.reduceLT, if_true, Nat.zero_add, Nat.add_zero, ite_true, Nat.le_refl, Bool.false_eq_true, reduceCtorEq, if_false, ite_false, binAV, AO.ren, AV.isCell, fillAV, List.set_cons_zero, List.set_cons_succ, Ty.cells, Ty.flat, Ty.dflt, List.getD_cons_zero, List.getD_cons_succ, Int.reduceToNat, Int.reduceSub, Int.reduceAdd, Int.reduceMul, Int.reduceNeg, forall_eq_or_imp, forall_eq, gdL, id_eq, Nat.lt_irrefl, srcOf, List.replicate_succ, List.replicate_zero, dite_true, List.isEmpty_cons, Option.isSome_some, List.length_append, List.length_singleton, bne_self_eq_false, Bool.not_true, Bool.not_false, conF, asArgs, asArg, asTy, asI1, asB1, asS1, asL1, canons, canon, Fork.true_, Fork.false_, bne, Bool.not_not, List.length_map, pickO, AS.over, TI.bl, bne_iff_ne, AS.over2, without, keys, List.mem_singleton, memOp2, memOp3, absorb, abInt, abBool, abStr, abList, gones, Int.toNat_natCast, List.take_length, subE, List.nodup_cons, List.nodup_nil, not_false_eq_true, Nat.sub_self, conR, asG, asI, asBo, asStr, asIs, asBs, asE4, asI2, asI3, asLL, asLLL, Th_int, Th_bool, Th_implBases, Th_implGroup, Th_lawsSharedKey, Th_string, G_BasesOfI, c_isValidGroup, c_within, c_basesOf, hL])
    | ((with_reducible refine ens_step ?_ (fun hE => ?_)); · ((repeat' with_reducible apply And.intro) <;> first | with_reducible assumption | omega | exact True.intro | with_reducible rfl | (show ByteArray.size _ ≤ _; decide) | (simp; done) | (simp; omega) | rfl))
    | ((with_reducible refine And.intro ?_ ?_); · ((repeat' with_reducible apply And.intro) <;> first | with_reducible assumption | omega | exact True.intro | with_reducible rfl | (show ByteArray.size _ ≤ _; decide) | (simp; done) | (simp; omega) | rfl))
    | ((with_reducible refine Fork.intro (fun h' => ?_) (fun h' => ?_)) <;> (try simp only [Bool.not_eq_true', Bool.not_eq_false', bne] at h') <;> (replace hL := And.intro h' hL) <;> (try simp only [decide_eq_true_eq, decide_eq_false_iff_not, beq_iff_eq, beq_eq_false_iff_ne, ne_eq] at h') <;> (try (have hG := M.goodB_of h'; have hq2 := hG.q2; have hqp := hG.qp; have hp3 := hG.p3; have hpM := hG.pM)) <;> (try (have hin := inr_t h')) <;> (try (have hb2 := bsV_g (n := n) h'; replace hL := And.intro hb2.1 (And.intro hb2.2 hL))) <;> (try (have hb2 := bsV_i (p := p) (q := q) (g := g) h'; replace hL := And.intro hb2.1 (And.intro hb2.2 hL))) <;> (try (have hb2 := bsV_t hG h'; replace hL := And.intro hb2.1 (And.intro hb2.2 hL))))
    | (with_reducible refine AWp.skipS ?_)
    | ((with_reducible refine AWp.condT rfl ?_))
    | ((with_reducible refine AWp.condF rfl ?_))
    | (with_reducible refine AWp.condB rfl ?_)
    | ((with_reducible refine AWp.ret_id ?_); refine AWp.sub (Sub.nilBox 8 1 100001 3 .int rfl rfl rfl) ?_)
    | (with_reducible refine AWp.ret ?_)
    | (with_reducible refine seqQ_n ?_)
    | (with_reducible refine seqQ_ret ?_)
    | (with_reducible refine blkQ_ret ?_)
    | (with_reducible refine blkQ_n ?_)
    | (with_reducible refine seqQ_exit ?_)
    | (with_reducible refine blkQ_exit ?_)
    | (with_reducible refine blkQ_other (by decide) ?_)
    | (with_reducible refine AWp.block ?_)
    | (with_reducible refine AWp.exit ?_)
    | (with_reducible refine AWp.skip ?_)
    | ((with_reducible refine EndsAt_id ?_); (try subst_vars); (try simp only [id_eq, hL, List.length_cons, List.length_nil, Nat.zero_add, Nat.reduceAdd, Bool.and_true, Bool.and_false, Bool.true_and, Bool.false_and, Bool.and_self, ↓reduceIte, Bool.false_eq_true, Bool.not_true, Bool.not_false, bne]); refine EndsAt.done [_] (by first | exact .inr rfl | exact .inl rfl) rfl rfl ?_ ?_ <;> first | decide | (repeat' (first | rfl | apply And.intro | trivial)))
    | (with_reducible refine AWp.seq ?_)⟩
noncomputable def c_BasesOfS : Con0 := conF [(.pair .int (.pair .int .int)), .int] fun (⟨⟨p, q, g⟩, n, _⟩ : (Int × Int × Int) × Int × Unit) => (True, .tup [.agg [.lit (.int .i64 (bsV p q g n).1), .own 0 (bsV p q g n).2.length], .lit (.bool (okBs p q g n))], [.row 3 .int (bsV p q g n).2])
noncomputable def G_BasesOfS : List (FuncId × Con) := [(60, mk c_l2Good), (69, mk c_l1In), (70, mk c_DeriveElement), (71, mk c_DeriveElements)]
theorem G_BasesOfS_ok : ∀ f C, (f, C) ∈ G_BasesOfS → C.ok Try.prog f := by
  intro f C h
  simp only [G_BasesOfS, List.mem_cons, Prod.mk.injEq, List.not_mem_nil, or_false] at h
  rcases h with ⟨rfl, rfl⟩ | ⟨rfl, rfl⟩ | ⟨rfl, rfl⟩ | ⟨rfl, rfl⟩
  · exact ok_l2Good
  · exact ok_l1In
  · exact ok_DeriveElement
  · exact ok_DeriveElements
set_option maxRecDepth 100000 in
set_option maxHeartbeats 4000000 in
theorem ok_BasesOfS : (mk c_BasesOfS).ok Try.prog 19 := okF (Θ := Th) (N := 40) (rs := [.cell 4 35, .tmp 5]) Th_ok Try.func19 (by kernel_rfl) rfl Try.results19 (by decide) (by kernel_rfl) fun (⟨⟨p, q, g⟩, n, _⟩ : (Int × Int × Int) × Int × Unit) => ⟨rfl, rfl, Nat.le_of_ble_eq_true rfl, fun hc w0 => by
  have hL := dmy_eq
  try dsimp only at hc
  try dsimp only
  refine AWp.body rfl ?_
  repeat' first
    | ((with_reducible refine hK _ _ ?_); clear hK K)
    | ((with_reducible refine hK _ _ (by kernel_rfl) ?_); clear hK K)
    | ((with_reducible refine AWp.pS Th_ok G_BasesOfS_ok [0, 1, 2, 4, 5, 6, 7, 8, 9, 17, 35] (by decide) ?_); intro K hK)
    | ((with_reducible refine AWp.dS (by kernel_rfl) Th_ok G_BasesOfS_ok [0, 1, 2, 4, 5, 6, 7, 8, 9, 17, 35] ?_); intro K hK)
    | ((with_reducible refine AWp.pE Th_ok G_BasesOfS_ok [0, 1, 2, 4, 5, 6, 7, 8, 9, 17, 35] (by decide) ?_); intro K hK)
    | ((with_reducible refine AWp.dE (by kernel_rfl) Th_ok G_BasesOfS_ok [0, 1, 2, 4, 5, 6, 7, 8, 9, 17, 35] ?_); intro K hK)
    | ((first | with_reducible refine runF_id ?_ | with_reducible refine stepF_id ?_); simp (maxSteps := 2000000) only [runF, stepF, forkOf, gdOf, List.toList_toArray, stepOp, look, opAV, pureOp, callOp, memOp, AS.ev, AS.get, AS.obj, initS, initFrom, AV.cells, AS.upd, Option.bind_some, Option.bind_none, Option.map_some, Option.map_none, Option.getD_none, Option.getD_some, ↓reduceIte, Nat.reduceEqDiff, Nat.reduceAdd, Nat.reduceMul, Nat.reduceSub, List.nil_append, List.append_nil, List.cons_append, List.map_cons, List.map_nil, true_and, and_true, AS.fin, pick, dedup, List.mem_cons, List.not_mem_nil, or_false, false_or, List.size_toArray, List.length_cons, List.length_nil, loadAV, List.drop_zero, List.drop_succ_cons, List.take_zero, List.take_succ_cons, List.getElem?_cons_zero, List.getElem?_cons_succ, List.head?_cons, List.mapM_cons, List.mapM_nil, Option.bind_eq_bind, Option.pure_def, deeps3, deep3, deep2, deep1, deeps, deeps2, mixInts, AV.plain, mk, mkD, DCon.lift, DCon.runC, ren3, ren2, ren1, numb, List.zipIdx_nil, List.zipIdx_cons, List.all_nil, List.all_cons, Nat.reduceLeDiff, List.range, List.range.loop, Ty.sz, beq_self_eq_true, Bool.and_self, and_self, Ty.ofC, AO.isDead, Nat.reduceLT, if_true, Nat.zero_add, Nat.add_zero, ite_true, Nat.le_refl, Bool.false_eq_true, reduceCtorEq, if_false, ite_false, binAV, AO.ren, AV.isCell, fillAV, List.set_cons_zero, List.set_cons_succ, Ty.cells, Ty.flat, Ty.dflt, List.getD_cons_zero, List.getD_cons_succ, Int.reduceToNat, Int.reduceSub, Int.reduceAdd, Int.reduceMul, Int.reduceNeg, forall_eq_or_imp, forall_eq, gdL, id_eq, Nat.lt_irrefl, srcOf, List.replicate_succ, List.replicate_zero, dite_true, List.isEmpty_cons, Option.isSome_some, List.length_append, List.length_singleton, bne_self_eq_false, Bool.not_true, Bool.not_false, conF, asArgs, asArg, asTy, asI1, asB1, asS1, asL1, canons, canon, Fork.true_, Fork.false_, bne, Bool.not_not, List.length_map, pickO, AS.over, TI.bl, bne_iff_ne, AS.over2, without, keys, List.mem_singleton, memOp2, memOp3, absorb, abInt, abBool, abStr, abList, gones, Int.toNat_natCast, List.take_length, subE, List.nodup_cons, List.nodup_nil, not_false_eq_true, Nat.sub_self, conR, asG, asI, asBo, asStr, asIs, asBs, asE4, asI2, asI3, asLL, asLLL, Th_int, Th_Sint, Th_bool, Th_implBases, Th_implEqualLog, Th_implGroup, Th_lawsEqualLog, Th_lawsGroup, Th_string, G_BasesOfS, c_l2Good, c_l1In, c_DeriveElement, c_DeriveElements, hL])
    | ((with_reducible refine ens_step ?_ (fun hE => ?_)); · ((repeat' with_reducible apply And.intro) <;> first | with_reducible assumption | omega | exact True.intro | with_reducible rfl | (show ByteArray.size _ ≤ _; decide) | (simp; done) | (simp; omega) | rfl))
    | ((with_reducible refine And.intro ?_ ?_); · ((repeat' with_reducible apply And.intro) <;> first | with_reducible assumption | omega | exact True.intro | with_reducible rfl | (show ByteArray.size _ ≤ _; decide) | (simp; done) | (simp; omega) | rfl))
    | ((with_reducible refine Fork.intro (fun h' => ?_) (fun h' => ?_)) <;> (try simp only [Bool.not_eq_true', Bool.not_eq_false', bne] at h') <;> (replace hL := And.intro h' hL) <;> (try simp only [decide_eq_true_eq, decide_eq_false_iff_not, beq_iff_eq, beq_eq_false_iff_ne, ne_eq] at h') <;> (try (have hG := M.goodB_of h'; have hq2 := hG.q2; have hqp := hG.qp; have hp3 := hG.p3; have hpM := hG.pM)) <;> (try (have hin := inr_t h')))
    | (with_reducible refine AWp.skipS ?_)
    | ((with_reducible refine AWp.condT rfl ?_))
    | ((with_reducible refine AWp.condF rfl ?_))
    | (with_reducible refine AWp.condB rfl ?_)
    | ((with_reducible refine AWp.ret_id ?_); refine AWp.sub (Sub.nilBox 8 1 100001 3 .int rfl rfl rfl) ?_)
    | (with_reducible refine AWp.ret ?_)
    | (with_reducible refine seqQ_n ?_)
    | (with_reducible refine seqQ_ret ?_)
    | (with_reducible refine blkQ_ret ?_)
    | (with_reducible refine blkQ_n ?_)
    | (with_reducible refine seqQ_exit ?_)
    | (with_reducible refine blkQ_exit ?_)
    | (with_reducible refine blkQ_other (by decide) ?_)
    | (with_reducible refine AWp.block ?_)
    | (with_reducible refine AWp.exit ?_)
    | (with_reducible refine AWp.skip ?_)
    | ((with_reducible refine EndsAt_id ?_); (try subst_vars); (try simp only [bsV, okBs, boV, okBo, drvs_len, dsV_t, hL, List.length_cons, List.length_nil, Nat.zero_add, Nat.reduceAdd, Bool.and_true, Bool.and_false, Bool.true_and, Bool.false_and, Bool.and_self, ↓reduceIte, Bool.false_eq_true, Bool.not_true, Bool.not_false, bne]); refine EndsAt.done [_] (by first | exact .inr rfl | exact .inl rfl) rfl rfl ?_ ?_ <;> first | decide | (repeat' (first | rfl | apply And.intro | trivial)))
    | (with_reducible refine AWp.seq ?_)⟩
end Go.Proofs.Ytjapjmhifoeogaa
