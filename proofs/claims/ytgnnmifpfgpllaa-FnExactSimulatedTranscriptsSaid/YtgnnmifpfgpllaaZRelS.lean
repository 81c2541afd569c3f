import Derived.Test.YtgnnmifpfgpllaaZRel
/- A region that draws its order, walked once, the world kept in a class of one's own. -/
set_option linter.all false
set_option linter.unusedVariables false
set_option linter.unusedSimpArgs false
namespace Go.Proofs.Ytgnnmifpfgpllaa
open Go.RowKit
section
variable {P : Program} {ops : Array Oper} {Q : Exit → Act → World → Prop} {S : World → Prop} {R : Nat → Value → World → Prop} {a0 : Act} {ds : List (Option Tmp)}
/-- what an operation does, in whatever order; the class of worlds is kept -/
def RelOpS (P : Program) (ops : Array Oper) (Q : Exit → Act → World → Prop) (S : World → Prop) (a0 : Act) (ds : List (Option Tmp)) (R : Nat → Value → World → Prop) (o : Oper) (r : Value → World → Prop) : Prop :=
  ∀ a w, S w → (∀ (k : Tmp) v, a0.tmps[k]? = some v → ds.contains (some k) = false → a.tmps[k]? = some v) → depsOK R ds a w o.after.toList → ∀ K : Act → World → Prop, (∀ v w', r v w' → Below w.heap.size w w' → S w' → K (a.put o.dst v) w') →
    if Region.wanted o (yielded ops a.tmps) = true then Oper.wp P o a w K Q else K (a.put o.dst undef) w
theorem RelOpS.congr {R' : Nat → Value → World → Prop} {o : Oper} {r : Value → World → Prop} {n : Nat} (h : RelOpS P ops Q S a0 ds R o r) (hord : ∀ e ∈ o.after, Region.binds .any e = true → e.on < n) (hR : ∀ j, j < n → R' j = R j) : RelOpS P ops Q S a0 ds R' o r :=
  fun a w hS hb hd K hK => h a w hS hb (depsOK_congr hR (fun e he => hord e (by simpa using he)) hd) K hK
theorem rel_anyS (n : Nat) (hn : n ≤ ops.size) (htail : ∀ (i : Nat) (o : Oper), ops[i]? = some o → n ≤ i → ∀ j, j < i → ∃ e ∈ o.after, Region.binds .any e = true ∧ e.on = j)
    (hord : ∀ (i : Nat) (o : Oper), ops[i]? = some o → ∀ e ∈ o.after, Region.binds .any e = true → e.on < i) (hds : (ops.toList.take n).map (·.dst) = ds) (hdis : distinctB ds = true) (hbd : ∀ k : Tmp, some k ∈ ds → k < a0.tmps.size)
    (hRs : ∀ i v w w', R i v w → Below w.heap.size w w' → R i v w')
    (hop : ∀ i o, i < n → ops[i]? = some o → RelOpS P ops Q S a0 ds R o (R i))
    (hend : ∀ a w, Fits a0 ds a → S w → (∀ (i : Nat) (k : Tmp), ds[i]? = some (some k) → ∃ v, a.tmps[k]? = some v ∧ R i v w) → TailWp P ops Q (ops.toList.drop n) a w) :
    ∀ (fuel : Nat) (listed : Array Bool) (a : Act) (w : World), listed.size = ops.size → unl ops.size listed ≤ fuel → (∀ i, n ≤ i → listed.getD i false = false) → Fits a0 ds a → S w → (∀ (i : Nat) (k : Tmp), listed.getD i false = true → ds[i]? = some (some k) → ∃ v, a.tmps[k]? = some v ∧ R i v w) → wpAny P .any ops Q fuel listed a w := by
  have hlen : ds.length = n := by rw [← hds]; simp; omega
  have hall : ∀ listed : Array Bool, listed.size = ops.size → Region.ready .any ops listed = [] → ∀ i, i < ops.size → listed.getD i false = true := by
    intro listed hsz hr i
    induction i using Nat.strongRecOn with
    | _ i ih =>
      intro hi
      cases hl : listed.getD i false with
      | true => rfl
      | false =>
        have hl' : listed.getD i true = false := by rw [getD_tf (by omega)]; exact hl
        have : i ∈ Region.ready .any ops listed := mem_ready.2 ⟨hl', ops[i], Array.getElem?_eq_getElem hi, fun e he hb => by
          have h1 := hord i ops[i] (Array.getElem?_eq_getElem hi) e he hb
          exact ih e.on h1 (by omega)⟩
        rw [hr] at this; cases this
  have hfin : ∀ (fuel : Nat) (listed : Array Bool) (a : Act) (w : World), listed.size = ops.size → unl ops.size listed ≤ fuel → (∀ i, n ≤ i → listed.getD i false = false) → (∀ i, i < n → listed.getD i false = true) → Fits a0 ds a → S w → (∀ (i : Nat) (k : Tmp), listed.getD i false = true → ds[i]? = some (some k) → ∃ v, a.tmps[k]? = some v ∧ R i v w) → wpAny P .any ops Q fuel listed a w :=
    fun fuel listed a w hsz hu h2 h1 hF hS hL => tail_any n hord htail fuel n listed a w (Nat.le_refl _) hn hsz hu h1 h2 (hend a w hF hS fun i k hk => hL i k (h1 i (by have := (List.getElem?_eq_some_iff.1 hk).1; omega)) hk)
  intro fuel
  induction fuel with
  | zero =>
    intro listed a w hsz hu h2 hF hS hL
    exact hfin 0 listed a w hsz hu h2 (fun i hi => unl_zero hsz hu i (by omega)) hF hS hL
  | succ fuel ih =>
    intro listed a w hsz hu h2 hF hS hL
    by_cases hc : ∀ i, i < n → listed.getD i false = true
    · exact hfin _ listed a w hsz hu h2 hc hF hS hL
    refine ⟨fun hr => absurd (fun i hi => hall listed hsz hr i (by omega)) hc, fun i hi => ?_⟩
    obtain ⟨h1, o, ho, hdep⟩ := mem_ready.1 hi
    have hlt : i < ops.size := (Array.getElem?_eq_some_iff.1 ho).1
    have hin : i < n := by
      rcases Nat.lt_or_ge i n with h | h
      · exact h
      · exact absurd (fun j hj => by
          obtain ⟨e, he, hb, hon⟩ := htail i o ho h j (by omega)
          rw [← hon]; exact hdep e he hb) hc
    have hdi : ds[i]? = some o.dst := by
      rw [← hds]
      simp [hin, ho]
    have hK : ∀ v w', R i v w' → Below w.heap.size w w' → S w' → wpAny P .any ops Q fuel (listed.setIfInBounds i true) (a.put o.dst v) w' := by
      intro v w' hR hB hS'
      refine ih (listed.setIfInBounds i true) (a.put o.dst v) w' (by simpa using hsz) (by have := unl_set hsz hlt h1; omega) (fun j hj => by rw [getD_set_oth false (by omega)]; exact h2 j hj) (hF.put (List.mem_of_getElem? hdi) v) hS' ?_
      intro j k hj hk
      by_cases hji : j = i
      · subst hji
        rw [hdi] at hk
        injection hk with hk
        refine ⟨v, ?_, hR⟩
        have hkb := hbd k (by rw [← hk]; exact List.mem_of_getElem? hdi)
        rw [hk]
        simp only [Act.put]
        rw [Array.getElem?_setIfInBounds_self_of_lt (by rw [hF.size]; exact hkb)]
      · rw [getD_set_oth false hji] at hj
        obtain ⟨u, hu, hRu⟩ := hL j k hj hk
        refine ⟨u, ?_, hRs j u _ _ hRu hB⟩
        cases hd : o.dst with
        | none => exact hu
        | some d =>
          have hne : d ≠ k := fun e => by
            subst e
            exact hji (distinct_of hdis hk (by rw [hdi, hd]))
          simp only [Act.put]
          rw [Array.getElem?_setIfInBounds_ne hne]; exact hu
    have hgo := hop i o hin ho a w hS hF.base (depsOK_of fun e he hb k hk => hL e.on k (hdep e (by simpa using he) hb) hk) (wpAny P .any ops Q fuel (listed.setIfInBounds i true)) fun v w' h4 h5 h6 => hK v w' h4 h5 h6
    unfold wpOp
    simp only [ho]
    split
    · rename_i hw
      rw [if_pos hw] at hgo
      exact .inl hgo
    · rename_i hw
      rw [if_neg hw] at hgo
      exact hgo
end
section
variable (P : Program) (ops : Array Oper) (Q : Exit → Act → World → Prop) (S : World → Prop) (a0 : Act) (ds : List (Option Tmp))
/-- the operations that are left, the facts on the values so far -/
def ChainS : (Nat → Value → World → Prop) → Nat → Nat → List Oper → Prop
  | R, 0, _, l => ∀ x w, S w → (∀ i k, ds[i]? = some (some k) → R i (x i) w) → TailWp P ops Q l (fillB ds 0 a0 x) w
  | _, _ + 1, _, [] => False
  | R, m + 1, i, o :: l => ∃ r, relStable r ∧ RelOpS P ops Q S a0 ds R o r ∧ ChainS (updR R i r) m (i + 1) l
end
section
variable {P : Program} {ops : Array Oper} {Q : Exit → Act → World → Prop} {S : World → Prop} {a0 : Act} {ds : List (Option Tmp)}
theorem ChainS.rel {R : Nat → Value → World → Prop} {m i : Nat} {o : Oper} {l : List Oper} (r : Value → World → Prop) (hs : relStable r) (h : RelOpS P ops Q S a0 ds R o r) (hc : ChainS P ops Q S a0 ds (updR R i r) m (i + 1) l) : ChainS P ops Q S a0 ds R (m + 1) i (o :: l) := ⟨r, hs, h, hc⟩
theorem ChainS.det {R : Nat → Value → World → Prop} {m i : Nat} {o : Oper} {l : List Oper} {V : Value} (h : RelOpS P ops Q S a0 ds R o (eqV V)) (hc : ChainS P ops Q S a0 ds (updR R i (eqV V)) m (i + 1) l) : ChainS P ops Q S a0 ds R (m + 1) i (o :: l) := ⟨_, stable_eq V, h, hc⟩
theorem ChainS.out (hord : ∀ (i : Nat) (o : Oper), ops[i]? = some o → ∀ e ∈ o.after, Region.binds .any e = true → e.on < i) : ∀ (m : Nat) (l : List Oper) (R : Nat → Value → World → Prop) (i : Nat) (_ : ∀ j, l[j]? = ops[i + j]?) (_ : ChainS P ops Q S a0 ds R m i l) (_ : ∀ j, relStable (R j)),
    ∃ R' : Nat → Value → World → Prop, (∀ j, j < i → R' j = R j) ∧ (∀ j, relStable (R' j)) ∧ (∀ j o, i ≤ j → j < i + m → ops[j]? = some o → RelOpS P ops Q S a0 ds R' o (R' j)) ∧ (∀ x w, S w → (∀ i k, ds[i]? = some (some k) → R' i (x i) w) → TailWp P ops Q (l.drop m) (fillB ds 0 a0 x) w)
  | 0, l, R, i, _, h, hs => ⟨R, fun _ _ => rfl, hs, fun j o h1 h2 => by omega, fun x w a b => h x w a b⟩
  | m + 1, [], R, i, _, h, _ => h.elim
  | m + 1, o :: l, R, i, hl, ⟨r, hr, h1, hc⟩, hs => by
    obtain ⟨R', a, b, c, d⟩ := ChainS.out hord m l (updR R i r) (i + 1) (fun j => by
      have := hl (j + 1)
      rw [List.getElem?_cons_succ] at this
      rw [this]; congr 1; omega) hc (fun j => by
      unfold updR; split
      · exact hr
      · exact hs j)
    have e1 : R' i = r := by rw [a i (by omega)]; unfold updR; rw [if_pos rfl]
    have e2 : ∀ j, j < i → R' j = R j := fun j hj => by rw [a j (by omega)]; unfold updR; rw [if_neg (by omega)]
    refine ⟨R', e2, b, fun j o' h2 h3 ho => ?_, d⟩
    by_cases e : j = i
    · subst e
      have h0 := hl 0
      rw [List.getElem?_cons_zero, Nat.add_zero, ho] at h0
      injection h0 with h0
      subst h0
      rw [e1]
      exact h1.congr (n := j) (hord j o ho) e2
    · exact c j o' (by omega) (by omega) ho
theorem wp_region_chainS {id : Nat} {a0 : Act} {w0 : World} (S : World → Prop) (n : Nat) (ds : List (Option Tmp)) (hm : P.follows .mixedOrders = true) (hn : decide (n ≤ ops.size) = true) (hds : (ops.toList.take n).map (·.dst) = ds) (hdis : distinctB ds = true) (hbd : (ds.all fun d => match d with | some k => decide (k < a0.tmps.size) | none => true) = true)
    (hord : (List.range ops.size).all (fun i => ((ops[i]?).map fun o => o.after.all fun e => !Region.binds .any e || decide (e.on < i)).getD true) = true)
    (htail : (List.range ops.size).all (fun i => decide (i < n) || (List.range i).all fun j => ((ops[i]?).map fun o => o.after.any fun e => Region.binds .any e && e.on == j).getD true) = true) (hS0 : S w0.drew)
    (h : ChainS P ops Q S a0 ds (fun _ _ _ => True) n 0 ops.toList) : (Code.region id ops true).wp P Q a0 w0 := by
  have hord' : ∀ (i : Nat) (o : Oper), ops[i]? = some o → ∀ e ∈ o.after, Region.binds .any e = true → e.on < i := by
    intro i o ho e he hbe
    have hlt : i < ops.size := (Array.getElem?_eq_some_iff.1 ho).1
    have h1 := List.all_eq_true.1 hord i (List.mem_range.2 hlt)
    rw [ho] at h1
    simp only [Option.map_some, Option.getD_some] at h1
    have := Array.all_eq_true'.1 h1 e he
    rw [hbe] at this
    simpa using this
  have htail' : ∀ (i : Nat) (o : Oper), ops[i]? = some o → n ≤ i → ∀ j, j < i → ∃ e ∈ o.after, Region.binds .any e = true ∧ e.on = j := by
    intro i o ho hni j hj
    have hlt : i < ops.size := (Array.getElem?_eq_some_iff.1 ho).1
    have h1 := List.all_eq_true.1 htail i (List.mem_range.2 hlt)
    have h0 : decide (i < n) = false := by simp; omega
    rw [h0, Bool.false_or] at h1
    have h2 := List.all_eq_true.1 h1 j (List.mem_range.2 hj)
    rw [ho] at h2
    simp only [Option.map_some, Option.getD_some] at h2
    obtain ⟨e, he, h3⟩ := Array.any_eq_true'.1 h2
    simp at h3
    exact ⟨e, he, h3.1, h3.2⟩
  obtain ⟨R', _, b, c, d⟩ := ChainS.out hord' n ops.toList _ 0 (fun j => by simp) h (fun _ _ _ _ _ _ => trivial)
  refine wp_region_any hm ?_
  refine rel_anyS (S := S) (R := R') (a0 := a0) (ds := ds) n (of_decide_eq_true hn) htail' hord' hds hdis (fun k hk => by have := List.all_eq_true.1 hbd _ hk; simpa using this) (fun i v w w' => b i v w w') (fun i o hi ho => c i o (Nat.zero_le _) (by omega) ho) ?_ ops.size _ _ _ (by simp) ?_ ?_ ⟨rfl, rfl, fun k v h _ => h⟩ hS0 ?_
  · intro a w hF hS hR
    have e : fillB ds 0 a0 (fun i => match ds[i]? with | some (some k) => (a.tmps[k]?).getD undef | _ => undef) = a := by
      refine fillB_eq a _ ds 0 a0 hF.defers.symm hF.size.symm (fun k hk => ?_) (fun j k hj => ?_)
      · cases h0 : a0.tmps[k]? with
        | some v => exact (hF.base k v h0 (by cases hc : ds.contains (some k) with
            | false => rfl
            | true => exact absurd (List.contains_iff_mem.1 hc) hk)).symm
        | none => exact (Array.getElem?_eq_none (by rw [hF.size]; exact Array.getElem?_eq_none_iff.1 h0)).symm
      · simp only [Nat.zero_add, hj]
    rw [← e]
    refine d _ w hS fun i k hk => ?_
    obtain ⟨v, hv, hr⟩ := hR i k hk
    simp only [hk, hv]
    exact hr
  · unfold unl
    exact Nat.le_trans List.countP_le_length (by simp)
  · intro i _
    simp [Array.getD]
  · intro i k hi
    simp [Array.getD] at hi
end
end Go.Proofs.Ytgnnmifpfgpllaa
