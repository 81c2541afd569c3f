import Derived.Test.YtgnnmifpfgpllaaZG3
import Derived.Test.YtgnnmifpfgpllaaZD20
import Derived.Test.YtgnnmifpfgpllaaZB9
import Derived.Test.YtgnnmifpfgpllaaZAL
/- Transcripts put in. -/
set_option linter.all false
set_option linter.unusedVariables false
set_option linter.unusedSimpArgs false
namespace Go.Proofs.Ytgnnmifpfgpllaa
open Go.RowKit
/-- a transcript put in from behind -/
def insR (t : (Int × Int × Int)) : List (Int × Int × Int) → List (Int × Int × Int)
  | [] => [t]
  | x :: l => if lexL t x = true then x :: insR t l else t :: x :: l
def insT (t : (Int × Int × Int)) (xs : List (Int × Int × Int)) : List (Int × Int × Int) := (insR t xs.reverse).reverse
theorem lexL_asym {x y : (Int × Int × Int)} (h : lexL x y = true) : lexL y x = false := by
  simp only [lexL, decide_eq_true_eq, decide_eq_false_iff_not] at *; omega
theorem lexL_nt {x y z : (Int × Int × Int)} (h1 : lexL x y = false) (h2 : lexL y z = false) : lexL x z = false := by
  have := lexL_swo.ntrans x y z
  rw [trC_lt, trC_lt, trC_lt] at this
  exact this h1 h2
theorem insR_perm (t : (Int × Int × Int)) : ∀ l : List (Int × Int × Int), (insR t l).Perm (t :: l)
  | [] => List.Perm.refl _
  | x :: l => by
    rw [insR]; split
    · exact ((insR_perm t l).cons x).trans (List.Perm.swap t x l)
    · exact List.Perm.refl _
theorem insR_sorted (t : (Int × Int × Int)) : ∀ l : List (Int × Int × Int), l.Pairwise (fun x y => lexL x y = false) → (insR t l).Pairwise fun x y => lexL x y = false
  | [], _ => by simp [insR]
  | x :: l, h => by
    obtain ⟨h1, h2⟩ := List.pairwise_cons.1 h
    rw [insR]; split
    · rename_i hx
      refine List.pairwise_cons.2 ⟨fun y hy => ?_, insR_sorted t l h2⟩
      rcases List.mem_cons.1 ((insR_perm t l).mem_iff.1 hy) with rfl | hy
      · exact lexL_asym hx
      · exact h1 y hy
    · rename_i hx
      have hx : lexL t x = false := by simpa using hx
      refine List.pairwise_cons.2 ⟨fun y hy => ?_, h⟩
      rcases List.mem_cons.1 hy with rfl | hy
      · exact hx
      · exact lexL_nt hx (h1 y hy)
theorem insT_perm (t : (Int × Int × Int)) (xs : List (Int × Int × Int)) : (insT t xs).Perm (t :: xs) := by
  unfold insT
  exact (List.reverse_perm _).trans ((insR_perm t _).trans ((List.reverse_perm xs).cons t))
theorem insT_sorted (t : (Int × Int × Int)) (xs : List (Int × Int × Int)) (h : xs.Pairwise fun x y => lexL y x = false) : (insT t xs).Pairwise fun x y => lexL y x = false := by
  unfold insT
  rw [List.pairwise_reverse]
  exact insR_sorted t _ (List.pairwise_reverse.2 h)
theorem insT_len {t : (Int × Int × Int)} {xs : List (Int × Int × Int)} : (insT t xs).length = xs.length + 1 := (insT_perm t xs).length_eq
theorem insT_y {t x : (Int × Int × Int)} {l : List (Int × Int × Int)} (h : lexL t x = true) : insT t (l ++ [x]) = insT t l ++ [x] := by
  simp [insT, insR, h]
theorem insT_n {t x : (Int × Int × Int)} {l : List (Int × Int × Int)} (h : lexL t x = false) : insT t (l ++ [x]) = l ++ [x] ++ [t] := by
  simp [insT, insR, h]
def putsT (l : List (Int × Int × Int)) : List (Int × Int × Int) := l.foldl (fun acc x => insT x acc) []
theorem putsT_app (l : List (Int × Int × Int)) (x : (Int × Int × Int)) : putsT (l ++ [x]) = insT x (putsT l) := by simp [putsT, List.foldl_append]
theorem putsTF (l : List (Int × Int × Int)) : ∀ acc : List (Int × Int × Int), acc.Pairwise (fun x y => lexL y x = false) → (l.foldl (fun acc x => insT x acc) acc).Pairwise (fun x y => lexL y x = false) ∧ (l.foldl (fun acc x => insT x acc) acc).Perm (l ++ acc) := by
  induction l with
  | nil => intro acc h; exact ⟨h, List.Perm.refl _⟩
  | cons x l ih =>
    intro acc h
    obtain ⟨h1, h2⟩ := ih (insT x acc) (insT_sorted x acc h)
    refine ⟨h1, h2.trans ?_⟩
    exact ((insT_perm x acc).append_left l).trans List.perm_middle
theorem putsT_ok (l : List (Int × Int × Int)) : (putsT l).Pairwise (fun x y => lexL y x = false) ∧ (putsT l).Perm l := by
  have := putsTF l [] .nil
  rw [List.append_nil] at this
  exact this
theorem putsT_len (l : List (Int × Int × Int)) : (putsT l).length = l.length := (putsT_ok l).2.length_eq
theorem srtT_ok (l : List (Int × Int × Int)) : (srtT l).Pairwise (fun x y => lexL y x = false) ∧ (srtT l).Perm l := by
  refine ⟨?_, List.mergeSort_perm ..⟩
  have := List.pairwise_mergeSort (le := fun x y : (Int × Int × Int) => !lexL y x) (fun a b c h1 h2 => by
    simp only [Bool.not_eq_true'] at *
    exact lexL_nt h2 h1) (fun a b => by
    cases h : lexL b a with
    | false => rfl
    | true => rw [lexL_asym h]; rfl) l
  exact this.imp fun h => by simpa using h
theorem srtT_puts {l m : List (Int × Int × Int)} (h : l.Perm m) : srtT l = putsT m := by
  refine List.Perm.eq_of_pairwise (le := fun x y => lexL y x = false) (fun a b _ _ h1 h2 => ?_) (srtT_ok l).1 (putsT_ok m).1 ((srtT_ok l).2.trans (h.trans (putsT_ok m).2.symm))
  refine lexL_tot a b ?_ ?_
  · rw [trC_lt]; exact h2
  · rw [trC_lt]; exact h1
/-- all pairs below n, as far as row a, place b -/
def tL (F : Nat → Nat → (Int × Int × Int)) (n a b : Nat) : List (Int × Int × Int) := ((List.range a).flatMap fun i => (List.range n).map (F i)) ++ (List.range b).map (F a)
section
variable {F : Nat → Nat → (Int × Int × Int)} {n a b : Nat}
theorem tL_00 : tL F n 0 0 = [] := rfl
theorem tL_step : tL F n a b ++ [F a b] = tL F n a (b + 1) := by simp [tL, List.range_succ]
theorem tL_row : tL F n a n = tL F n (a + 1) 0 := by simp [tL, List.range_succ]
theorem tL_len : (tL F n a b).length = a * n + b := by
  unfold tL
  rw [List.length_append, List.length_map, List.length_range]
  congr 1
  induction a with
  | zero => simp
  | succ a ih => rw [List.range_succ, List.flatMap_append, List.length_append, ih, Nat.succ_mul]; simp
theorem tL_le (hn : n ≤ 23) (ha : a ≤ n) (hb : b ≤ n) : (tL F n a b).length ≤ 600 := by
  rw [tL_len]
  have : a * n ≤ 23 * 23 := Nat.mul_le_mul (by omega) hn
  omega
theorem flat_app {α : Type} (g : Nat → List α) (h : Nat → α) : ∀ l : List Nat, (l.flatMap fun j => g j ++ [h j]).Perm (l.flatMap g ++ l.map h)
  | [] => List.Perm.refl _
  | x :: l => by
    rw [List.flatMap_cons, List.flatMap_cons, List.map_cons, List.append_assoc, List.append_assoc, List.singleton_append]
    exact (((flat_app g h l).cons (h x)).trans List.perm_middle.symm).append_left (g x)
theorem pairs_perm {α : Type} (F : Nat → Nat → α) (n : Nat) : ∀ m : Nat, ((List.range m).flatMap fun i => (List.range n).map (F i)).Perm ((List.range n).flatMap fun j => (List.range m).map fun i => F i j)
  | 0 => by simp
  | m + 1 => by
    rw [List.range_succ, List.flatMap_append]
    have h := flat_app (fun j => (List.range m).map fun i => F i j) (fun j => F m j) (List.range n)
    have e : ((List.range n).flatMap fun j => (List.range m ++ [m]).map fun i => F i j) = (List.range n).flatMap fun j => ((List.range m).map fun i => F i j) ++ [F m j] := by
      congr 1; funext j; simp
    rw [e]
    refine List.Perm.trans ?_ h.symm
    simp only [List.flatMap_cons, List.flatMap_nil, List.append_nil]
    exact (pairs_perm F n m).append_right _
theorem tL_swap : (tL F n n 0).Perm (tL (fun i j => F j i) n n 0) := by
  unfold tL
  simp only [List.range_zero, List.map_nil, List.append_nil]
  exact pairs_perm F n n
theorem ps_step : insT (F a b) (putsT (tL F n a b)) = putsT (tL F n a (b + 1)) := by rw [← putsT_app, tL_step]
theorem ps_row : putsT (tL F n a n) = putsT (tL F n (a + 1) 0) := by rw [tL_row]
theorem ps_le (hn : n ≤ 23) (ha : a ≤ n) (hb : b ≤ n) : (putsT (tL F n a b)).length ≤ 600 := by
  rw [putsT_len]; exact tL_le hn ha hb
theorem tL_st : (tL F n a (b + 1)).length = (tL F n a b).length + 1 := by rw [tL_len, tL_len]; omega
end
/-- xPut's contract -/
def Con.putT (T : TypeId) : Con where
  run nid h args := match args with
    | [.own o n, .agg [.lit (.int .i64 a), .lit (.int .i64 b), .lit (.int .i64 c)]] => match h o, h nid with
      | .row e (.pair .int (.pair .int .int)) xs, .dead => some (n = xs.length ∧ e = T ∧ xs.length ≤ 1000, .own nid (insT (a, b, c) xs).length, [(nid, .row T (.pair .int (.pair .int .int)) (insT (a, b, c) xs)), (o, .gone n)], [nid, o])
      | _, _ => none
    | _ => none
  congr nid h h' args r hs hh := by
    revert hs
    split
    · rename_i o n a b c
      split
      · rename_i e xs h1 h2
        intro hs; cases hs
        rw [← hh o (by simp), ← hh nid (by simp), h1, h2]
      · intro hs; cases hs
    · intro hs; cases hs
theorem okPutT {P : Program} {f : FuncId} {T : TypeId} (hent : ∀ args w, (callFunc f args).run P w = .ok (.enter f args) w)
    (h2 : ∀ (a b c : Int) (xs : List (Int × Int × Int)), xs.length ≤ 1000 → ∀ {w0 : World} {get : Nat → Option AV} {obj : Nat → AO} {ac : Act} {W : World} {ρ : Nat → Value} {β : Nat → List Nat}, RelW w0 get obj ac W ρ β → ∀ {o nid : Nat}, obj o = .row T (.pair .int (.pair .int .int)) xs → obj nid = .dead → ∀ {vs : List Value}, Reps (cxOf obj W ρ β) [.agg [.lit (.int .i64 a), .lit (.int .i64 b), .lit (.int .i64 c)]] vs → Calls P f (ρ o :: vs).toArray W fun en w' => ∃ u ρ' β', en = .returned u ∧ Rep (cxOf (setE obj [(nid, .row T (.pair .int (.pair .int .int)) (insT (a, b, c) xs)), (o, .gone xs.length)]) w' ρ' β') (.own nid (insT (a, b, c) xs).length) u ∧ RelW w0 get (setE obj [(nid, .row T (.pair .int (.pair .int .int)) (insT (a, b, c) xs)), (o, .gone xs.length)]) ac w' ρ' β') : (Con.putT T).ok P f := by
  refine ⟨hent, fun w0 get obj ac W ρ0 β h nid args c x eff tch hm hc vs hv => ?_⟩
  simp only [Con.putT] at hm
  split at hm
  rotate_left
  · cases hm
  rename_i o n a b c
  split at hm
  rotate_left
  · cases hm
  rename_i e xs hob hdead
  cases hm
  obtain ⟨hn, rfl, hl⟩ := hc
  obtain ⟨v1, vs, rfl, r1, hv2⟩ := hv.cons_of
  obtain ⟨hu, hown⟩ := h.whole hob hn r1
  subst hu hn
  exact h2 a b c xs hl h hob hdead hv2
theorem lexL_1 {a1 a2 a3 b1 b2 b3 : Int} (h : ¬ a1 = b1) : lexL (a1, a2, a3) (b1, b2, b3) = decide (a1 < b1) := by
  simp only [lexL]; rw [decide_eq_decide]; omega
theorem lexL_2 {a1 a2 a3 b1 b2 b3 : Int} (h1 : a1 = b1) (h : ¬ a2 = b2) : lexL (a1, a2, a3) (b1, b2, b3) = decide (a2 < b2) := by
  simp only [lexL]; rw [decide_eq_decide]; omega
theorem lexL_3 {a1 a2 a3 b1 b2 b3 : Int} (h1 : a1 = b1) (h : a2 = b2) : lexL (a1, a2, a3) (b1, b2, b3) = decide (a3 < b3) := by
  simp only [lexL]; rw [decide_eq_decide]; omega
noncomputable def c_xBefore : Con0 := conF [(.pair .int (.pair .int .int)), (.pair .int (.pair .int .int))] fun (⟨⟨a1, a2, a3⟩, ⟨b1, b2, b3⟩, _⟩ : (Int × Int × Int) × (Int × Int × Int) × Unit) => (True, .lit (.bool (lexL (a1, a2, a3) (b1, b2, b3))), [])
noncomputable def G_xBefore : List (FuncId × Con) := []
theorem G_xBefore_ok : ∀ f C, (f, C) ∈ G_xBefore → C.ok Try.prog f := by
  intro f C h
  simp only [G_xBefore, List.mem_cons, Prod.mk.injEq, List.not_mem_nil, or_false] at h
set_option maxRecDepth 100000 in
set_option maxHeartbeats 4000000 in
theorem ok_xBefore : (mk c_xBefore).ok Try.prog 95 := okF (Θ := Th) (N := 30) (rs := [.tmp 4]) Th_ok Try.func95 (by kernel_rfl) rfl Try.results95 (by decide) (by kernel_rfl) fun (⟨⟨a1, a2, a3⟩, ⟨b1, b2, b3⟩, _⟩ : (Int × Int × Int) × (Int × Int × Int) × Unit) => ⟨rfl, rfl, Nat.le_of_ble_eq_true rfl, fun hc w0 => by
  have hL := dmy_eq
  try dsimp only at hc
  try dsimp only
  refine AWp.body rfl ?_
  repeat' first
    | ((with_reducible refine hK _ _ ?_); clear hK K)
    | ((with_reducible refine hK _ _ (by kernel_rfl) ?_); clear hK K)
    | ((with_reducible refine AWp.pS Th_ok G_xBefore_ok [0, 1, 2, 3, 4, 9, 19] (by decide) ?_); intro K hK)
    | ((with_reducible refine AWp.dS (by kernel_rfl) Th_ok G_xBefore_ok [0, 1, 2, 3, 4, 9, 19] ?_); intro K hK)
    | ((with_reducible refine AWp.pE Th_ok G_xBefore_ok [0, 1, 2, 3, 4, 9, 19] (by decide) ?_); intro K hK)
    | ((with_reducible refine AWp.dE (by kernel_rfl) Th_ok G_xBefore_ok [0, 1, 2, 3, 4, 9, 19] ?_); intro K hK)
    | ((first | with_reducible refine runF_id ?_ | with_reducible refine stepF_id ?_); simp (maxSteps := 2000000) only [runF, stepF, forkOf, gdOf, List.toList_toArray, stepOp, look, opAV, pureOp, callOp, memOp, AS.ev, AS.get, AS.obj, initS, initFrom, AV.cells, AS.upd, Option.bind_some, Option.bind_none, Option.map_some, Option.map_none, Option.getD_none, Option.getD_some, ↓reduceIte, Nat.reduceEqDiff, Nat.reduceAdd, Nat.reduceMul, Nat.reduceSub, List.nil_append, List.append_nil, List.cons_append, List.map_cons, List.map_nil, true_and, and_true, AS.fin, pick, dedup, List.mem_cons, List.not_mem_nil, or_false, false_or, List.size_toArray, List.length_cons, List.length_nil, loadAV, List.drop_zero, List.drop_succ_cons, List.take_zero, List.take_succ_cons, List.getElem?_cons_zero, List.getElem?_cons_succ, List.head?_cons, List.mapM_cons, List.mapM_nil, Option.bind_eq_bind, Option.pure_def, deeps3, deep3, deep2, deep1, deeps, deeps2, mixInts, AV.plain, mk, mkD, DCon.lift, DCon.runC, ren3, ren2, ren1, numb, List.zipIdx_nil, List.zipIdx_cons, List.all_nil, List.all_cons, Nat.reduceLeDiff, List.range, List.range.loop, Ty.sz, beq_self_eq_true, Bool.and_self, and_self, Ty.ofC, AO.isDead, Nat.reduceLT, if_true, Nat.zero_add, Nat.add_zero, ite_true, Nat.le_refl, Bool.false_eq_true, reduceCtorEq, if_false, ite_false, binAV, AO.ren, AV.isCell, fillAV, List.set_cons_zero, List.set_cons_succ, Ty.cells, Ty.flat, Ty.dflt, List.getD_cons_zero, List.getD_cons_succ, Int.reduceToNat, Int.reduceSub, Int.reduceAdd, Int.reduceMul, Int.reduceNeg, forall_eq_or_imp, forall_eq, gdL, id_eq, Nat.lt_irrefl, srcOf, List.replicate_succ, List.replicate_zero, dite_true, List.isEmpty_cons, Option.isSome_some, List.length_append, List.length_singleton, bne_self_eq_false, Bool.not_true, Bool.not_false, conF, asArgs, asArg, asTy, asI1, asB1, asS1, asL1, canons, canon, Fork.true_, Fork.false_, bne, Bool.not_not, List.length_map, pickO, AS.over, TI.bl, bne_iff_ne, AS.over2, without, keys, List.mem_singleton, memOp2, memOp3, absorb, abInt, abBool, abStr, abList, gones, Int.toNat_natCast, List.take_length, subE, List.nodup_cons, List.nodup_nil, not_false_eq_true, Nat.sub_self, conR, asG, asI, asBo, asStr, asIs, asBs, asE4, asI2, asI3, asLL, asLLL, Th_int, Th_Sint, Th_implTranscript, Th_lawsBases, Th_lawsGroup, Th_lawsRangeProof, Th_lawsSProof, G_xBefore, hL])
    | ((with_reducible refine ens_step ?_ (fun hE => ?_)); · ((repeat' with_reducible apply And.intro) <;> first | with_reducible assumption | omega | exact True.intro | with_reducible rfl | (show ByteArray.size _ ≤ _; decide) | (simp; done) | (simp; omega) | rfl))
    | ((with_reducible refine And.intro ?_ ?_); · ((repeat' with_reducible apply And.intro) <;> first | with_reducible assumption | omega | exact True.intro | with_reducible rfl | (show ByteArray.size _ ≤ _; decide) | (simp; done) | (simp; omega) | rfl))
    | ((with_reducible refine Fork.intro (fun h' => ?_) (fun h' => ?_)) <;> (try simp only [Bool.not_eq_true', Bool.not_eq_false', bne] at h') <;> (replace hL := And.intro h' hL) <;> (try simp only [decide_eq_true_eq, decide_eq_false_iff_not, beq_iff_eq, beq_eq_false_iff_ne, ne_eq] at h') <;> (try (have hlx := lexL_1 (a1 := a1) (a2 := a2) (a3 := a3) (b1 := b1) (b2 := b2) (b3 := b3) h'; replace hL := And.intro hlx hL)) <;> (try (have hlx := lexL_2 (a1 := a1) (a2 := a2) (a3 := a3) (b1 := b1) (b2 := b2) (b3 := b3) (by assumption) h'; replace hL := And.intro hlx hL)) <;> (try (have hlx := lexL_3 (a1 := a1) (a2 := a2) (a3 := a3) (b1 := b1) (b2 := b2) (b3 := b3) (by assumption) h'; replace hL := And.intro hlx hL)))
    | (with_reducible refine AWp.skipS ?_)
    | ((with_reducible refine AWp.condT rfl ?_))
    | ((with_reducible refine AWp.condF rfl ?_))
    | (with_reducible refine AWp.condB rfl ?_)
    | (with_reducible refine AWp.ret ?_)
    | (with_reducible refine seqQ_n ?_)
    | (with_reducible refine seqQ_ret ?_)
    | (with_reducible refine blkQ_ret ?_)
    | (with_reducible refine blkQ_n ?_)
    | (with_reducible refine seqQ_exit ?_)
    | (with_reducible refine blkQ_exit ?_)
    | (with_reducible refine blkQ_other (by decide) ?_)
    | (with_reducible refine AWp.block ?_)
    | (with_reducible refine AWp.exit ?_)
    | (with_reducible refine AWp.skip ?_)
    | ((with_reducible refine EndsAt_id ?_); (try subst_vars); (try simp only [id_eq, hL, List.length_cons, List.length_nil, Nat.zero_add, Nat.reduceAdd, Bool.and_true, Bool.and_false, Bool.true_and, Bool.false_and, Bool.and_self, ↓reduceIte, Bool.false_eq_true, Bool.not_true, Bool.not_false, bne]); refine EndsAt.done [] (by first | exact .inr rfl | exact .inl rfl) rfl rfl ?_ ?_ <;> first | decide | (repeat' (first | rfl | apply And.intro | trivial)))
    | (with_reducible refine AWp.seq ?_)⟩
end Go.Proofs.Ytgnnmifpfgpllaa
