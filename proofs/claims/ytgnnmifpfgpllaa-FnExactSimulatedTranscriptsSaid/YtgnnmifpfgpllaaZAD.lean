import Derived.Test.YtgnnmifpfgpllaaZAC
import Derived.Deep.LoopGhost
/- Abstract walks: parts 13, 14, 15, 16. -/
/- A region that draws its order: the run in the text's order stands for all. -/
set_option linter.all false
set_option linter.unusedVariables false
set_option linter.unusedSimpArgs false
namespace Go.Proofs.Ytgnnmifpfgpllaa
open Go.RowKit
abbrev Rc := AV × List (Nat × AO) × List Nat
def maskOf (acc : List Nat) (es : List Edge) : Nat := es.foldl (fun m e => if Region.binds .any e = true then m ||| 2 ^ e.on ||| acc.getD e.on 0 else m) 0
def masksFrom (acc : List Nat) : List Oper → List Nat
  | [] => acc
  | o :: l => masksFrom (acc ++ [maskOf acc o.after.toList]) l
theorem masksFrom_spec : ∀ (l : List Oper) (acc : List Nat), ∃ r : List Nat, masksFrom acc l = acc ++ r ∧ r.length = l.length ∧ ∀ (k : Nat) o, l[k]? = some o → (acc ++ r)[acc.length + k]? = some (maskOf ((acc ++ r).take (acc.length + k)) o.after.toList)
  | [], acc => ⟨[], by simp [masksFrom], rfl, fun k o h => by simp at h⟩
  | o :: l, acc => by
    obtain ⟨r, h1, h2, h3⟩ := masksFrom_spec l (acc ++ [maskOf acc o.after.toList])
    refine ⟨maskOf acc o.after.toList :: r, by rw [masksFrom, h1]; simp, by simp [h2], fun k o' hk => ?_⟩
    cases k with
    | zero =>
      simp at hk; subst hk
      simp
    | succ k =>
      have := h3 k o' (by simpa using hk)
      simp only [List.length_append, List.length_singleton, List.append_assoc, List.singleton_append] at this
      rw [show acc.length + (k + 1) = acc.length + 1 + k by omega]
      exact this
theorem maskOf_bit {acc : List Nat} {j : Nat} : ∀ (es : List Edge), (maskOf acc es).testBit j = true → ∃ e ∈ es, Region.binds .any e = true ∧ (e.on = j ∨ (acc.getD e.on 0).testBit j = true) := by
  have key : ∀ (es : List Edge) (m : Nat), (es.foldl (fun m e => if Region.binds .any e = true then m ||| 2 ^ e.on ||| acc.getD e.on 0 else m) m).testBit j = true → m.testBit j = true ∨ ∃ e ∈ es, Region.binds .any e = true ∧ (e.on = j ∨ (acc.getD e.on 0).testBit j = true) := by
    intro es
    induction es with
    | nil => intro m h; exact .inl h
    | cons e es ih =>
      intro m h
      simp only [List.foldl_cons] at h
      rcases ih _ h with h1 | ⟨e', h1, h2⟩
      · split at h1
        · rename_i hb
          rw [Nat.testBit_or, Nat.testBit_or, Bool.or_eq_true, Bool.or_eq_true] at h1
          rcases h1 with (h1 | h1) | h1
          · exact .inl h1
          · rw [Nat.testBit_two_pow] at h1
            exact .inr ⟨e, by simp, hb, .inl (by simpa using h1)⟩
          · exact .inr ⟨e, by simp, hb, .inr h1⟩
        · exact .inl h1
      · exact .inr ⟨e', by simp [h1], h2⟩
  intro es h
  rcases key es 0 h with h | h
  · simp at h
  · exact h
def gdOf (ops : List Oper) (g : Nat) : Option Tmp := (ops[g]?).bind (·.dst)
def hits (l l' : List Nat) : Bool := l.any fun x => l'.contains x
def confl (ops : List Oper) (R : List (List Nat × List Nat)) (i j : Nat) : Bool :=
  match ops[i]?, ops[j]?, R[i]?, R[j]? with
  | some oi, some oj, some ri, some rj =>
    (match oj.dst with | some t => (rdS (gdOf ops) oi).contains t || oi.dst == some t | none => false) || (match oi.dst with | some t => (rdS (gdOf ops) oj).contains t | none => false) || hits ri.1 rj.2 || hits rj.1 ri.2 || hits ri.2 rj.2
  | _, _, _, _ => true
def regOK (N : Nat) (ops : List Oper) (R : List (List Nat × List Nat)) : Bool :=
  (List.range ops.length).all fun i => (match ops[i]? with
    | some o => o.after.toList.all (fun e => !Region.binds .any e || decide (e.on < i)) && (match o.dst with | some t => decide (t < N) | none => true)
    | none => false) && (List.range i).all fun j => !confl ops R i j || ((masksFrom [] ops).getD i 0).testBit j
section
variable {P : Program} {Θ : TypeId → Option TI} {Γ : List (FuncId × Con)} {ds : List (Nat × Bool)} {w0 : World}
def getL (ops : List Oper) (R : List Rc) (g0 : Nat → Option AV) (L : Nat → Bool) : Nat → Nat → Option AV
  | 0, s => g0 s
  | k + 1, s => if L k = true ∧ gdOf ops k = some s then (R[k]?).map (·.1) else getL ops R g0 L k s
def effAt (R : List Rc) (k : Nat) : List (Nat × AO) := ((R[k]?).map (·.2.1)).getD []
def objL (R : List Rc) (h0 : Nat → AO) (L : Nat → Bool) : Nat → Nat → AO
  | 0 => h0
  | k + 1 => if L k = true then setE (objL R h0 L k) (effAt R k) else objL R h0 L k
theorem getL_congr {ops : List Oper} {R : List Rc} {g0 : Nat → Option AV} {L L' : Nat → Bool} {s : Nat} : ∀ {n : Nat}, (∀ k, k < n → gdOf ops k = some s → L k = L' k) → getL ops R g0 L n s = getL ops R g0 L' n s
  | 0, _ => rfl
  | n + 1, h => by
    simp only [getL]
    rw [getL_congr fun k hk => h k (by omega)]
    by_cases hd : gdOf ops n = some s
    · rw [h n (by omega) hd]
    · simp [hd]
theorem objL_congr {R : List Rc} {h0 : Nat → AO} {L L' : Nat → Bool} {o : Nat} : ∀ {n : Nat}, (∀ k, k < n → (∃ p ∈ effAt R k, p.1 = o) → L k = L' k) → objL R h0 L n o = objL R h0 L' n o
  | 0, _ => rfl
  | n + 1, h => by
    have ih := objL_congr (h0 := h0) (n := n) fun k hk => h k (by omega)
    simp only [objL]
    by_cases hd : ∃ p ∈ effAt R n, p.1 = o
    · rw [h n (by omega) hd]
      split
      · rw [setE_in (obj' := objL R h0 L' n) hd]
      · exact ih
    · have hd' : ∀ p ∈ effAt R n, p.1 ≠ o := fun p hp e => hd ⟨p, hp, e⟩
      have e1 : (if L n = true then setE (objL R h0 L n) (effAt R n) else objL R h0 L n) o = objL R h0 L n o := by
        split
        · exact setE_out hd'
        · rfl
      have e2 : (if L' n = true then setE (objL R h0 L' n) (effAt R n) else objL R h0 L' n) o = objL R h0 L' n o := by
        split
        · exact setE_out hd'
        · rfl
      rw [e1, e2, ih]
theorem getL_last {ops : List Oper} {R : List Rc} {g0 : Nat → Option AV} {L : Nat → Bool} {s i : Nat} (hL : L i = true) (hd : gdOf ops i = some s) : ∀ {n : Nat}, i < n → (∀ k, i < k → k < n → gdOf ops k = some s → L k = false) → getL ops R g0 L n s = (R[i]?).map (·.1)
  | 0, h, _ => by omega
  | n + 1, h, hk => by
    simp only [getL]
    by_cases e : n = i
    · subst e; rw [if_pos ⟨hL, hd⟩]
    · rw [if_neg (fun hh => by rw [hk n (by omega) (by omega) hh.2] at hh; exact absurd hh.1 (by simp))]
      exact getL_last hL hd (by omega) fun k h1 h2 => hk k h1 (by omega)
theorem objL_last {R : List Rc} {h0 h1 : Nat → AO} {L : Nat → Bool} {o i : Nat} (hL : L i = true) (hd : ∃ p ∈ effAt R i, p.1 = o) : ∀ {n : Nat}, i < n → (∀ k, i < k → k < n → (∃ p ∈ effAt R k, p.1 = o) → L k = false) → objL R h0 L n o = setE h1 (effAt R i) o
  | 0, h, _ => by omega
  | n + 1, h, hk => by
    simp only [objL]
    by_cases e : n = i
    · subst e; rw [if_pos hL]; exact setE_in hd
    · have ih := objL_last (h0 := h0) (h1 := h1) hL hd (n := n) (by omega) fun k h1 h2 => hk k h1 (by omega)
      by_cases hn : ∃ p ∈ effAt R n, p.1 = o
      · rw [hk n (by omega) (by omega) hn]; simpa using ih
      · split
        · rw [setE_out fun p hp e => hn ⟨p, hp, e⟩]; exact ih
        · exact ih
/-- the steps of the run in the text's order -/
def Steps_ (Θ : TypeId → Option TI) (Γ : List (FuncId × Con)) (ds : List (Nat × Bool)) (ops : List Oper) (nx : Nat) (g0 : Nat → Option AV) (h0 : Nat → AO) (R : List Rc) : Prop :=
  R.length = ops.length ∧ ∀ (i : Nat) o r, ops[i]? = some o → R[i]? = some r → ∃ c : Prop, c ∧ stepOp Θ Γ ds (gdOf ops) nx i o (evOf (getL ops R g0 (fun _ => true) i)) (objL R h0 (fun _ => true) i) = some (c, r)
theorem getL_pre {ops : List Oper} {R : List Rc} {g0 : Nat → Option AV} {i s : Nat} : ∀ {n : Nat}, i ≤ n → getL ops R g0 (fun k => decide (k < i)) n s = getL ops R g0 (fun _ => true) i s
  | 0, h => by have : i = 0 := by omega
               subst this; rfl
  | n + 1, h => by
    by_cases e : i = n + 1
    · subst e
      exact getL_congr fun k hk _ => by simpa using hk
    · simp only [getL]
      rw [if_neg (fun hh => by have := hh.1; simp at this; omega)]
      exact getL_pre (by omega)
theorem objL_pre {R : List Rc} {h0 : Nat → AO} {i : Nat} : ∀ {n : Nat}, i ≤ n → objL R h0 (fun k => decide (k < i)) n = objL R h0 (fun _ => true) i
  | 0, h => by have : i = 0 := by omega
               subst this; rfl
  | n + 1, h => by
    by_cases e : i = n + 1
    · subst e
      funext o
      exact objL_congr fun k hk _ => by simpa using hk
    · simp only [objL]
      rw [if_neg (by simp; omega)]
      exact objL_pre (by omega)
theorem region_any (hΘ : ∀ t ti, Θ t = some ti → ti.ok P t) (hΓ : ∀ f C, (f, C) ∈ Γ → C.ok P f) {ops : Array Oper} {N nx : Nat} {g0 : Nat → Option AV} {h0 : Nat → AO} {R : List Rc} (hst : Steps_ Θ Γ ds ops.toList nx g0 h0 R) (hok : regOK N ops.toList (R.map fun r => (r.2.2, r.2.1.map (·.1))) = true) {Q : Exit → Act → World → Prop}
    (hQ : ∀ a W ρ β, a.tmps.size = N → RelW w0 (getL ops.toList R g0 (fun _ => true) ops.size) (objL R h0 (fun _ => true) ops.size) a W ρ β → Q .normal a W) :
    ∀ (fuel : Nat) (listed : Array Bool) (a : Act) (W : World) (ρ : Nat → Value) (β : Nat → List Nat), listed.size = ops.size → unl ops.size listed ≤ fuel → (∀ i o, listed.getD i false = true → ops[i]? = some o → ∀ e ∈ o.after, Region.binds .any e = true → listed.getD e.on false = true) → a.tmps.size = N →
      RelW w0 (getL ops.toList R g0 (fun k => listed.getD k false) ops.size) (objL R h0 (fun k => listed.getD k false) ops.size) a W ρ β → wpAny P .any ops Q fuel listed a W := by
  have hrow : ∀ (i : Nat) o, ops[i]? = some o → (∀ e ∈ o.after, Region.binds .any e = true → e.on < i) ∧ (∀ t, o.dst = some t → t < N) ∧ ∀ j, j < i → confl ops.toList (R.map fun r => (r.2.2, r.2.1.map (·.1))) i j = true → ((masksFrom [] ops.toList).getD i 0).testBit j = true := by
    intro i o ho
    have hlt : i < ops.size := (Array.getElem?_eq_some_iff.1 ho).1
    have h1 := List.all_eq_true.1 hok i (List.mem_range.2 (by simpa using hlt))
    have ho' : ops.toList[i]? = some o := by simpa using ho
    rw [ho'] at h1
    simp only [Bool.and_eq_true] at h1
    obtain ⟨⟨h2, h3⟩, h4⟩ := h1
    refine ⟨fun e he hb => ?_, fun t ht => ?_, fun j hj hc => ?_⟩
    · have := List.all_eq_true.1 h2 e (by simpa using he)
      rw [hb] at this; simpa using this
    · rw [ht] at h3; simpa using h3
    · have := List.all_eq_true.1 h4 j (List.mem_range.2 hj)
      rw [hc] at this; simpa using this
  have hanc : ∀ (L : Nat → Bool), (∀ i o, L i = true → ops[i]? = some o → ∀ e ∈ o.after, Region.binds .any e = true → L e.on = true) → ∀ (i : Nat) o, ops[i]? = some o → (∀ e ∈ o.after, Region.binds .any e = true → L e.on = true) → ∀ j, ((masksFrom [] ops.toList).getD i 0).testBit j = true → L j = true := by
    intro L hcl i
    obtain ⟨r, m1, m2, m3⟩ := masksFrom_spec ops.toList []
    rw [List.nil_append] at m1
    simp only [List.nil_append, List.length_nil, Nat.zero_add] at m3
    rw [m1]
    induction i using Nat.strongRecOn with
    | _ i ih =>
      intro o ho he j hj
      have h1 := m3 i o (by simpa using ho)
      rw [List.getD_eq_getElem?_getD, h1, Option.getD_some] at hj
      obtain ⟨e, g1, g2, g3⟩ := maskOf_bit _ hj
      have g1' : e ∈ o.after := by simpa using g1
      have hL := he e g1' g2
      rcases g3 with rfl | g3
      · exact hL
      · have hlt := (hrow i o ho).1 e g1' g2
        have hlen : i < ops.size := (Array.getElem?_eq_some_iff.1 ho).1
        rw [List.getD_eq_getElem?_getD, List.getElem?_take, if_pos hlt, ← List.getD_eq_getElem?_getD] at g3
        exact ih e.on hlt ops[e.on] (Array.getElem?_eq_getElem (by omega)) (fun e' he' hb' => hcl e.on _ hL (Array.getElem?_eq_getElem (by omega)) e' he' hb') j g3
  intro fuel
  induction fuel with
  | zero =>
    intro listed a W ρ β hsz hu hcl hN h
    have hall := unl_zero hsz hu
    refine ⟨ready_nil hsz hall, hQ a W ρ β hN ?_⟩
    have e1 : getL ops.toList R g0 (fun k => listed.getD k false) ops.size = getL ops.toList R g0 (fun _ => true) ops.size := by
      funext s; exact getL_congr fun k hk _ => hall k hk
    have e2 : objL R h0 (fun k => listed.getD k false) ops.size = objL R h0 (fun _ => true) ops.size := by
      funext s; exact objL_congr fun k hk _ => hall k hk
    rw [e1, e2] at h; exact h
  | succ fuel ih =>
    intro listed a W ρ β hsz hu hcl hN h
    refine ⟨fun hr => ?_, fun i hi => ?_⟩
    · -- nothing ready: all listed
      have hall : ∀ k, k < ops.size → listed.getD k false = true := by
        intro k
        induction k using Nat.strongRecOn with
        | _ k ihk =>
          intro hk
          cases hv : listed.getD k false with
          | true => rfl
          | false =>
            exfalso
            have : k ∈ Region.ready .any ops listed := mem_ready.2 ⟨by rw [getD_tf (by omega)]; exact hv, ops[k], Array.getElem?_eq_getElem hk, fun e he hb => by
              have := (hrow k _ (Array.getElem?_eq_getElem hk)).1 e he hb
              exact ihk e.on this (by omega)⟩
            rw [hr] at this; cases this
      refine hQ a W ρ β hN ?_
      have e1 : getL ops.toList R g0 (fun k => listed.getD k false) ops.size = getL ops.toList R g0 (fun _ => true) ops.size := by
        funext s; exact getL_congr fun k hk _ => hall k hk
      have e2 : objL R h0 (fun k => listed.getD k false) ops.size = objL R h0 (fun _ => true) ops.size := by
        funext s; exact objL_congr fun k hk _ => hall k hk
      rw [e1, e2] at h; exact h
    · obtain ⟨hi1, o, ho, hdep⟩ := mem_ready.1 hi
      have hlt : i < ops.size := (Array.getElem?_eq_some_iff.1 ho).1
      have hiL : listed.getD i false = false := by rw [← getD_tf (by omega)]; exact hi1
      have ho' : ops.toList[i]? = some o := by simpa using ho
      have hRi : ∃ r, R[i]? = some r := ⟨_, List.getElem?_eq_getElem (by rw [hst.1]; simpa using hlt)⟩
      obtain ⟨r, hr⟩ := hRi
      obtain ⟨c, hc, hs⟩ := hst.2 i o r ho' hr
      have hR' : ∀ (k : Nat), (R.map fun r => (r.2.2, r.2.1.map (·.1)))[k]? = (R[k]?).map fun r => (r.2.2, r.2.1.map (·.1)) := fun k => by rw [List.getElem?_map]
      -- who conflicts with i is ordered
      have hord : ∀ k o' r', ops[k]? = some o' → R[k]? = some r' → k ≠ i → (confl ops.toList (R.map fun r => (r.2.2, r.2.1.map (·.1))) i k = true ∨ confl ops.toList (R.map fun r => (r.2.2, r.2.1.map (·.1))) k i = true) → (listed.getD k false = decide (k < i)) := by
        intro k o' r' ho2 hr2 hne hcf
        have hsym : confl ops.toList (R.map fun r => (r.2.2, r.2.1.map (·.1))) i k = confl ops.toList (R.map fun r => (r.2.2, r.2.1.map (·.1))) k i := by
          have ho2' : ops.toList[k]? = some o' := by simpa using ho2
          simp only [confl, ho', ho2', hR', hr, hr2, Option.map_some]
          have hh : ∀ l l' : List Nat, hits l l' = hits l' l := by
            intro l l'
            rw [Bool.eq_iff_iff]
            simp only [hits, List.any_eq_true, List.contains_iff_mem]
            exact ⟨fun ⟨x, h1, h2⟩ => ⟨x, h2, h1⟩, fun ⟨x, h1, h2⟩ => ⟨x, h2, h1⟩⟩
          rw [hh r.2.2 _, hh r'.2.2 _, hh (r.2.1.map (·.1)) (r'.2.1.map (·.1)), hh (List.map (fun x => x.fst) r'.2.1) r.2.2, hh (List.map (fun x => x.fst) r.2.1) r'.2.2]
          cases hd1 : o.dst with
          | none => cases hd2 : o'.dst <;> simp [Bool.or_comm, Bool.or_left_comm, Bool.or_assoc]
          | some t =>
            cases hd2 : o'.dst with
            | none => simp [Bool.or_comm, Bool.or_left_comm, Bool.or_assoc]
            | some t' =>
              have : (some t == some t') = (some t' == some t) := by rw [Bool.eq_iff_iff]; simp; exact ⟨fun h => h.symm, fun h => h.symm⟩
              simp only [this]
              generalize (rdS (gdOf ops.toList) o).contains t' = x1
              generalize (rdS (gdOf ops.toList) o').contains t = x2
              generalize (some t' == some t) = x3
              generalize hits r.2.2 (List.map (fun x => x.fst) r'.2.1) = x4
              generalize hits r'.2.2 (List.map (fun x => x.fst) r.2.1) = x5
              generalize hits (List.map (fun x => x.fst) r'.2.1) (List.map (fun x => x.fst) r.2.1) = x6
              revert x1 x2 x3 x4 x5 x6
              decide
        rw [hsym, or_self] at hcf
        rcases Nat.lt_or_ge k i with hki | hki
        · rw [← hsym] at hcf
          have := (hrow i o ho).2.2 k hki hcf
          rw [hanc (fun k => listed.getD k false) (fun i o h1 h2 => hcl i o h1 h2) i o ho (fun e he hb => hdep e he hb) k this]
          simp [hki]
        · have hik : i < k := by omega
          have hm := (hrow k o' ho2).2.2 i hik hcf
          cases hv : listed.getD k false with
          | false => simp; omega
          | true =>
            have := hanc (fun k => listed.getD k false) (fun i o h1 h2 => hcl i o h1 h2) k o' ho2 (fun e he hb => hcl k o' hv ho2 e he hb) i hm
            rw [hiL] at this; cases this
      have hfind : ∀ k, k < ops.size → ∃ o' r', ops[k]? = some o' ∧ ops.toList[k]? = some o' ∧ R[k]? = some r' := fun k hk => ⟨ops[k], R[k]'(by rw [hst.1]; simpa using hk), Array.getElem?_eq_getElem hk, by simpa using hk, List.getElem?_eq_getElem _⟩
      -- the step, at the state at hand
      have hs' : stepOp Θ Γ ds (gdOf ops.toList) nx i o (evOf (getL ops.toList R g0 (fun k => listed.getD k false) ops.size)) (objL R h0 (fun k => listed.getD k false) ops.size) = some (c, r) := by
        refine stepOp_congr hs (fun s hsr => ?_) (fun id hid => ?_)
        · rw [← getL_pre (n := ops.size) (by omega)]
          refine getL_congr fun k hk hd => ?_
          by_cases e : k = i
          · subst e; rw [hiL]; simp
          · obtain ⟨o', r', g1, g2, g3⟩ := hfind k hk
            refine (hord k o' r' g1 g3 e (.inl ?_)).symm
            have hd' : o'.dst = some s := by simpa [gdOf, g2] using hd
            simp only [confl, ho', g2, hR', hr, g3, Option.map_some, hd', List.contains_iff_mem.2 hsr, Bool.true_or]
        · rw [← objL_pre (n := ops.size) (by omega)]
          refine objL_congr fun k hk hd => ?_
          by_cases e : k = i
          · subst e; rw [hiL]; simp
          · obtain ⟨o', r', g1, g2, g3⟩ := hfind k hk
            refine (hord k o' r' g1 g3 e (.inl ?_)).symm
            obtain ⟨p, hp, rfl⟩ := hd
            have hp' : p ∈ r'.2.1 := by simpa [effAt, g3] using hp
            have : hits r.2.2 (r'.2.1.map (·.1)) = true := by
              simp only [hits, List.any_eq_true, List.contains_iff_mem]
              exact ⟨p.1, hid, List.mem_map_of_mem hp'⟩
            simp only [confl, ho', g2, hR', hr, g3, Option.map_some, this, Bool.or_true, Bool.true_or]
      -- the state behind it
      have hkey : ∀ k, (listed.setIfInBounds i true).getD k false = (if k = i then true else listed.getD k false) := by
        intro k
        by_cases e : k = i
        · subst e; simp only [if_true]; exact getD_set_self hi1
        · simp only [e, if_false]; exact getD_set_oth false e
      have eg : setS (getL ops.toList R g0 (fun k => listed.getD k false) ops.size) o.dst r.1 = getL ops.toList R g0 (fun k => (listed.setIfInBounds i true).getD k false) ops.size := by
        funext s
        unfold setS
        by_cases hd : o.dst = some s
        · rw [if_pos hd]
          have hgd : gdOf ops.toList i = some s := by simp [gdOf, ho', hd]
          rw [getL_last (i := i) (show (listed.setIfInBounds i true).getD i false = true by rw [hkey]; simp) hgd hlt (fun k h1 h2 h3 => by
            show (listed.setIfInBounds i true).getD k false = false
            rw [hkey, if_neg (by omega)]
            obtain ⟨o', r', g1, g2, g3⟩ := hfind k h2
            have hd' : o'.dst = some s := by simpa [gdOf, g2] using h3
            rw [hord k o' r' g1 g3 (by omega) (.inl (by simp only [confl, ho', g2, hR', hr, g3, Option.map_some, hd', hd, beq_self_eq_true, Bool.or_true, Bool.true_or]))]
            simp; omega), hr]
          rfl
        · rw [if_neg hd]
          refine getL_congr fun k hk hgd => ?_
          show listed.getD k false = (listed.setIfInBounds i true).getD k false
          rw [hkey]
          rw [if_neg (fun e => by subst e; exact hd (by simpa [gdOf, ho'] using hgd))]
      have eo : setE (objL R h0 (fun k => listed.getD k false) ops.size) r.2.1 = objL R h0 (fun k => (listed.setIfInBounds i true).getD k false) ops.size := by
        funext id
        have heff : effAt R i = r.2.1 := by simp [effAt, hr]
        by_cases hd : ∃ p ∈ r.2.1, p.1 = id
        · rw [objL_last (h1 := objL R h0 (fun k => listed.getD k false) ops.size) (i := i) (show (listed.setIfInBounds i true).getD i false = true by rw [hkey]; simp) (by rw [heff]; exact hd) hlt (fun k h1 h2 h3 => by
            show (listed.setIfInBounds i true).getD k false = false
            rw [hkey, if_neg (by omega)]
            obtain ⟨o', r', g1, g2, g3⟩ := hfind k h2
            obtain ⟨p, hp, he⟩ := hd
            obtain ⟨p', hp', he'⟩ := h3
            have hp2 : p' ∈ r'.2.1 := by simpa [effAt, g3] using hp'
            have : hits (r.2.1.map (·.1)) (r'.2.1.map (·.1)) = true := by
              simp only [hits, List.any_eq_true, List.contains_iff_mem]
              exact ⟨id, by rw [← he]; exact List.mem_map_of_mem hp, by rw [← he']; exact List.mem_map_of_mem hp2⟩
            rw [hord k o' r' g1 g3 (by omega) (.inl (by simp only [confl, ho', g2, hR', hr, g3, Option.map_some, this, Bool.or_true]))]
            simp; omega), heff]
        · rw [setE_out fun p hp e => hd ⟨p, hp, e⟩]
          refine objL_congr fun k hk hgd => ?_
          show listed.getD k false = (listed.setIfInBounds i true).getD k false
          rw [hkey]
          rw [if_neg (fun e => by subst e; rw [heff] at hgd; exact hd hgd)]
      have hcl' : ∀ i' o', (listed.setIfInBounds i true).getD i' false = true → ops[i']? = some o' → ∀ e ∈ o'.after, Region.binds .any e = true → (listed.setIfInBounds i true).getD e.on false = true := by
        intro i' o' h1 h2 e he hb
        rw [hkey i'] at h1
        rw [hkey e.on]
        split
        · rfl
        · split at h1
          · rename_i e'
            subst e'
            rw [ho] at h2; injection h2 with h2; subst h2
            exact hdep e he hb
          · exact hcl i' o' h1 h2 e he hb
      obtain ⟨x, eff, tch⟩ := r
      have := step_sound (P := P) (K := wpAny P .any ops Q fuel (listed.setIfInBounds i true)) hΘ hΓ (ops := ops) h (by
        have e : (fun g => (ops[g]?).bind (·.dst)) = gdOf ops.toList := by funext g; simp [gdOf]
        rw [e]; exact hs') hc (fun k hk => by rw [hN]; exact (hrow i o ho).2.1 k hk) (fun v W' ρ' β' hrel => by
          refine ih (listed.setIfInBounds i true) _ W' ρ' β' (by simpa using hsz) (by have := unl_set hsz hlt hi1; omega) hcl' (by cases hd : o.dst <;> simp [Act.put, hN]) ?_
          rw [← eg, ← eo]; exact hrel) Q
      unfold wpOp
      simp only [ho]
      split
      · rename_i hw
        rw [if_pos hw] at this
        exact .inl this
      · rename_i hw
        rw [if_neg hw] at this
        exact this
end
end Go.Proofs.Ytgnnmifpfgpllaa
/- Code, on abstract states. -/
namespace Go.Proofs.Ytgnnmifpfgpllaa
open Go.RowKit
/-- an abstract state holds in a frame and a world -/
def AtS (w0 : World) (N : Nat) (σ : AS) (a : Act) (W : World) : Prop := a.tmps.size = N ∧ ∃ ρ β, RelW w0 σ.get σ.obj a W ρ β
def runR (Θ : TypeId → Option TI) (Γ : List (FuncId × Con)) (ds : List (Nat × Bool)) (gd : Nat → Option Tmp) (nx : Nat) : List Oper → Nat → AS → List (List Nat × List Nat) → (AS → List (List Nat × List Nat) → Prop) → Prop
  | [], _, σ, rs, K => K σ rs
  | o :: l, i, σ, rs, K => match stepOp Θ Γ ds gd nx i o σ.ev σ.obj with
    | none => False
    | some (c, x, eff, tch) => c ∧ runR Θ Γ ds gd nx l (i + 1) (σ.upd o.dst x eff) (rs ++ [(tch, eff.map (·.1))]) K
theorem AS.ev_eq (σ : AS) : σ.ev = evOf σ.get := by funext x; cases x <;> rfl
section
variable {P : Program} {Θ : TypeId → Option TI} {Γ : List (FuncId × Con)} {ds : List (Nat × Bool)} {w0 : World} {N : Nat}
theorem getL_app {ops : List Oper} {R R' : List Rc} {g0 : Nat → Option AV} {L : Nat → Bool} {s : Nat} : ∀ {n : Nat}, n ≤ R.length → getL ops (R ++ R') g0 L n s = getL ops R g0 L n s
  | 0, _ => rfl
  | n + 1, h => by
    simp only [getL]
    rw [List.getElem?_append_left (by omega), getL_app (by omega)]
theorem objL_app {R R' : List Rc} {h0 : Nat → AO} {L : Nat → Bool} : ∀ {n : Nat}, n ≤ R.length → objL (R ++ R') h0 L n = objL R h0 L n
  | 0, _ => rfl
  | n + 1, h => by
    simp only [objL, effAt]
    rw [List.getElem?_append_left (by omega), objL_app (by omega)]
theorem runR_out {ops : List Oper} {nx : Nat} {g0 : Nat → Option AV} {h0 : Nat → AO} {K : AS → List (List Nat × List Nat) → Prop} : ∀ (l : List Oper) (pre : List Oper) (R0 : List Rc) (σ : AS), ops = pre ++ l → R0.length = pre.length → σ.get = getL ops R0 g0 (fun _ => true) pre.length → σ.obj = objL R0 h0 (fun _ => true) pre.length →
    (∀ (i : Nat) o r, i < pre.length → ops[i]? = some o → R0[i]? = some r → ∃ c : Prop, c ∧ stepOp Θ Γ ds (gdOf ops) nx i o (evOf (getL ops R0 g0 (fun _ => true) i)) (objL R0 h0 (fun _ => true) i) = some (c, r)) →
    runR Θ Γ ds (gdOf ops) nx l pre.length σ (R0.map fun r => (r.2.2, r.2.1.map (·.1))) K →
    ∃ R σ', Steps_ Θ Γ ds ops nx g0 h0 R ∧ σ'.get = getL ops R g0 (fun _ => true) ops.length ∧ σ'.obj = objL R h0 (fun _ => true) ops.length ∧ K σ' (R.map fun r => (r.2.2, r.2.1.map (·.1)))
  | [], pre, R0, σ, e, hl, hg, ho, hs, h => by
    rw [List.append_nil] at e
    subst e
    exact ⟨R0, σ, ⟨hl, fun i o r h1 h2 => hs i o r (List.getElem?_eq_some_iff.1 h1).1 h1 h2⟩, hg, ho, h⟩
  | o :: l, pre, R0, σ, e, hl, hg, ho, hs, h => by
    unfold runR at h
    split at h
    · exact h.elim
    · rename_i c x eff tch hst
      obtain ⟨hc, hrun⟩ := h
      have hop : ops[pre.length]? = some o := by rw [e]; simp
      have hgd : gdOf ops pre.length = o.dst := by simp [gdOf, hop]
      refine runR_out l (pre ++ [o]) (R0 ++ [(x, eff, tch)]) (σ.upd o.dst x eff) (by rw [e]; simp) (by simp [hl]) ?_ ?_ ?_ ?_
      · rw [AS.upd_get]
        funext s
        simp only [List.length_append, List.length_singleton, getL]
        rw [← hl, List.getElem?_append_right (Nat.le_refl _), getL_app (Nat.le_refl _), hl, hgd]
        unfold setS
        by_cases hd : o.dst = some s
        · simp [hd]
        · simp [hd, hg]
      · rw [AS.upd_obj]
        simp only [List.length_append, List.length_singleton, objL, effAt, if_true]
        rw [← hl, List.getElem?_append_right (Nat.le_refl _), objL_app (Nat.le_refl _), hl, ho]
        simp
      · intro i o' r hi h1 h2
        simp only [List.length_append, List.length_singleton] at hi
        by_cases hlt : i < pre.length
        · rw [List.getElem?_append_left (by omega)] at h2
          obtain ⟨c', hc', hs'⟩ := hs i o' r hlt h1 h2
          refine ⟨c', hc', ?_⟩
          rw [objL_app (by omega)]
          have : getL ops (R0 ++ [(x, eff, tch)]) g0 (fun _ => true) i = getL ops R0 g0 (fun _ => true) i := by funext s; exact getL_app (by omega)
          rw [this]; exact hs'
        · have : i = pre.length := by omega
          subst this
          rw [hop] at h1; injection h1 with h1; subst h1
          rw [List.getElem?_append_right (by omega), hl] at h2
          simp at h2; subst h2
          refine ⟨c, hc, ?_⟩
          rw [objL_app (by omega)]
          have : getL ops (R0 ++ [(x, eff, tch)]) g0 (fun _ => true) pre.length = getL ops R0 g0 (fun _ => true) pre.length := by funext s; exact getL_app (by omega)
          rw [this, ← hg, ← ho, ← AS.ev_eq]; exact hst
      · simp only [List.length_append, List.length_singleton, List.map_append, List.map_cons, List.map_nil]
        exact hrun
/-- code, from an abstract state, ends in abstract states that are told -/
def AWp (P : Program) (w0 : World) (N : Nat) (c : Code) (σ : AS) (AQ : Exit → AS → Prop) : Prop := ∀ a W, AtS w0 N σ a W → c.wp P (fun e a' W' => ∃ σ', AQ e σ' ∧ AtS w0 N σ' a' W') a W
theorem AWp.drawn (hm : P.follows .mixedOrders = true) (hΘ : ∀ t ti, Θ t = some ti → ti.ok P t) (hΓ : ∀ f C, (f, C) ∈ Γ → C.ok P f) {id : Nat} {ops : Array Oper} {σ : AS} {AQ : Exit → AS → Prop} (ds : List (Nat × Bool))
    (h : runR Θ Γ ds (gdOf ops.toList) σ.nx ops.toList 0 σ [] fun σ' rs => regOK N ops.toList rs = true ∧ AQ .normal σ') : AWp P w0 N (.region id ops true) σ AQ := by
  intro a W ⟨hN, ρ, β, hr⟩
  obtain ⟨R, σ', h1, h2, h3, h4, h5⟩ := runR_out (ops := ops.toList) (g0 := σ.get) (h0 := σ.obj) ops.toList [] [] σ rfl rfl rfl rfl (fun i o r h => by simp at h) h
  simp only [Array.length_toList] at h2 h3
  refine wp_region_any hm ?_
  have hpre : ∀ k, (Array.replicate ops.size false).getD k false = false := by
    intro k
    simp only [Array.getD_eq_getD_getElem?, Array.getElem?_replicate]
    split <;> rfl
  refine region_any hΘ hΓ h1 h4 (fun a W ρ β hN hr => ⟨σ', h5, hN, ρ, β, by rw [h2, h3]; exact hr⟩) ops.size _ a _ ρ β (by simp) (by unfold unl; exact Nat.le_trans List.countP_le_length (by simp)) (fun i o h => by rw [hpre] at h; cases h) hN ?_
  have hfun : (fun k => (Array.replicate ops.size false).getD k false) = fun _ => false := funext hpre
  have e1 : getL ops.toList R σ.get (fun _ => false) ops.size = σ.get := by
    funext s
    have : ∀ n, getL ops.toList R σ.get (fun _ => false) n s = σ.get s := by
      intro n
      induction n with
      | zero => rfl
      | succ n ih => simpa [getL] using ih
    exact this _
  have e2 : objL R σ.obj (fun _ => false) ops.size = σ.obj := by
    have : ∀ n, objL R σ.obj (fun _ => false) n = σ.obj := by
      intro n
      induction n with
      | zero => rfl
      | succ n ih => simpa [objL] using ih
    exact this _
  rw [hfun]
  rw [e1, e2]
  exact hr.drew
/-- a region in the text's order alone -/
theorem AWp.plain (hΘ : ∀ t ti, Θ t = some ti → ti.ok P t) (hΓ : ∀ f C, (f, C) ∈ Γ → C.ok P f) {id : Nat} {ops : Array Oper} {σ : AS} {AQ : Exit → AS → Prop} (ds : List (Nat × Bool)) (hN : ops.toList.all (fun o => match o.dst with | some t => decide (t < N) | none => true) = true)
    (h : runR Θ Γ ds (gdOf ops.toList) σ.nx ops.toList 0 σ [] fun σ' _ => AQ .normal σ') : AWp P w0 N (.region id ops false) σ AQ := by
  intro a W hat
  refine wp_region ?_
  have key : ∀ (l : List Oper) (pre : List Oper) (σ1 : AS) (rs : List (List Nat × List Nat)) (a : Act) (W : World), ops.toList = pre ++ l → AtS w0 N σ1 a W → (runR Θ Γ ds (gdOf ops.toList) σ.nx l pre.length σ1 rs fun σ' _ => AQ .normal σ') → wpOps P ops (fun e a' W' => ∃ σ', AQ e σ' ∧ AtS w0 N σ' a' W') ((List.range ops.size).drop pre.length) a W := by
    intro l
    induction l with
    | nil =>
      intro pre σ1 rs a W e hat h
      have : pre.length = ops.size := by have := congrArg List.length e; simpa using this.symm
      rw [this, List.drop_of_length_le (by simp)]
      exact ⟨σ1, h, hat⟩
    | cons o l ih =>
      intro pre σ1 rs a W e ⟨hs, ρ, β, hr⟩ h
      have hlt : pre.length < ops.size := by have := congrArg List.length e; simp at this; omega
      have hop : ops[pre.length]? = some o := by
        have : ops.toList[pre.length]? = some o := by rw [e]; simp
        simpa using this
      rw [List.drop_eq_getElem_cons (by simpa using hlt)]
      simp only [List.getElem_range, wpOps, hop]
      unfold runR at h
      split at h
      · exact h.elim
      · rename_i c x eff tch hst
        obtain ⟨hc, hrun⟩ := h
        rw [AS.ev_eq] at hst
        have hd : ∀ k, o.dst = some k → k < a.tmps.size := by
          intro k hk
          have := List.all_eq_true.1 hN o (by rw [e]; simp)
          rw [hk] at this; rw [hs]; simpa using this
        have := step_sound (P := P) (K := fun a' W' => wpOps P ops (fun e a' W' => ∃ σ', AQ e σ' ∧ AtS w0 N σ' a' W') ((List.range ops.size).drop (pre.length + 1)) a' W') hΘ hΓ (ops := ops) hr (by
          have e' : (fun g => (ops[g]?).bind (·.dst)) = gdOf ops.toList := by funext g; simp [gdOf]
          rw [e']; exact hst) hc hd (fun v W' ρ' β' hrel => by
            have := ih (pre ++ [o]) (σ1.upd o.dst x eff) _ (a.put o.dst v) W' (by rw [e]; simp) ⟨by cases hdd : o.dst <;> simp [Act.put, hs], ρ', β', by rw [AS.upd_get, AS.upd_obj]; exact hrel⟩ (by simpa using hrun)
            simpa using this) (fun e a' W' => ∃ σ', AQ e σ' ∧ AtS w0 N σ' a' W')
        split
        · rename_i hw; rw [if_pos hw] at this; exact .inl this
        · rename_i hw; rw [if_neg hw] at this; exact this
  have := key ops.toList [] σ [] a W rfl hat h
  simpa using this
theorem AWp.mono {c : Code} {σ : AS} {AQ AQ' : Exit → AS → Prop} (h : AWp P w0 N c σ AQ) (hq : ∀ e σ, AQ e σ → AQ' e σ) : AWp P w0 N c σ AQ' := fun a W hat => wp_mono (h a W hat) fun e a W ⟨σ', h1, h2⟩ => ⟨σ', hq _ _ h1, h2⟩
/-- what follows -/
def seqQ (f : AS → Prop) (AQ : Exit → AS → Prop) : Exit → AS → Prop
  | .normal, σ => f σ
  | e, σ => AQ e σ
theorem AWp.seq {x y : Code} {σ : AS} {AQ : Exit → AS → Prop} (h : AWp P w0 N x σ (seqQ (fun σ' => AWp P w0 N y σ' AQ) AQ)) : AWp P w0 N (.seq x y) σ AQ := by
  intro a W hat
  refine wp_seq (wp_mono (h a W hat) ?_)
  rintro e a' W' ⟨σ', h1, h2⟩
  cases e with
  | normal => exact h1 a' W' h2
  | _ => exact ⟨σ', h1, h2⟩
theorem AWp.cond {c : Operand} {x y : Code} {σ : AS} {AQ : Exit → AS → Prop} {b : Bool} (hc : σ.ev c = some (.lit (.bool b))) (ht : b = true → AWp P w0 N x σ AQ) (hf : b = false → AWp P w0 N y σ AQ) : AWp P w0 N (.cond c x y) σ AQ := by
  intro a W hat
  obtain ⟨hN, ρ, β, hr⟩ := id hat
  rw [AS.ev_eq] at hc
  have hv := (evOf_sound hr _ _ hc).lit_eq
  exact wp_cond_split hv (fun e => ht e a W hat) (fun e => hf e a W hat)
def blkQ (id : Nat) (AQ : Exit → AS → Prop) : Exit → AS → Prop
  | .exit k, σ => if k = id then AQ .normal σ else AQ (.exit k) σ
  | e, σ => AQ e σ
theorem AWp.block {id : Nat} {c : Code} {σ : AS} {AQ : Exit → AS → Prop} (h : AWp P w0 N c σ (blkQ id AQ)) : AWp P w0 N (.block id c) σ AQ := by
  intro a W hat
  refine wp_block (wp_mono (h a W hat) ?_)
  rintro e a' W' ⟨σ', h1, h2⟩
  cases e with
  | exit k =>
    simp only [Exit.inBlock, blkQ] at h1 ⊢
    split <;> rename_i hk
    · rw [if_pos hk] at h1; exact ⟨σ', h1, h2⟩
    · rw [if_neg hk] at h1; exact ⟨σ', h1, h2⟩
  | _ => exact ⟨σ', h1, h2⟩
theorem AWp.exit {id : Nat} {σ : AS} {AQ : Exit → AS → Prop} (h : AQ (.exit id) σ) : AWp P w0 N (.exit id) σ AQ := fun a W hat => wp_exit ⟨σ, h, hat⟩
theorem AWp.ret {σ : AS} {AQ : Exit → AS → Prop} (h : AQ .ret σ) : AWp P w0 N .ret σ AQ := fun a W hat => wp_ret ⟨σ, h, hat⟩
theorem AWp.skip {σ : AS} {AQ : Exit → AS → Prop} (h : AQ .normal σ) : AWp P w0 N .skip σ AQ := fun a W hat => wp_skip ⟨σ, h, hat⟩
/-- one abstract state says no more than another -/
def Sub (w0 : World) (N : Nat) (σ σ' : AS) : Prop := ∀ a W, AtS w0 N σ a W → AtS w0 N σ' a W
theorem Sub.refl {σ : AS} : Sub w0 N σ σ := fun _ _ h => h
theorem Sub.trans {σ σ1 σ2 : AS} (h : Sub w0 N σ σ1) (k : Sub w0 N σ1 σ2) : Sub w0 N σ σ2 := fun a W ha => k a W (h a W ha)
theorem AWp.sub {c : Code} {σ σ' : AS} {AQ : Exit → AS → Prop} (hs : Sub w0 N σ σ') (h : AWp P w0 N c σ' AQ) : AWp P w0 N c σ AQ := fun a W hat => h a W (hs a W hat)
theorem AWp.loop {c : Code} {σ : AS} {AQ : Exit → AS → Prop} {ι : Type} (S : ι → AS) (I : ι → Prop) (μ : ι → Nat) (i0 : ι) (h0 : I i0) (hs : Sub w0 N σ (S i0)) (h : ∀ i, I i → AWp P w0 N c (S i) (seqQ (fun σ' => ∃ j, I j ∧ μ j < μ i ∧ Sub w0 N σ' (S j)) AQ)) : AWp P w0 N (.loop c) σ AQ := by
  intro a W hat
  refine wp_loop_ghost (fun n a W => ∃ i, I i ∧ μ i = n ∧ AtS w0 N (S i) a W) (μ i0) ⟨i0, h0, rfl, hs a W hat⟩ ?_
  rintro n a W ⟨i, hI, rfl, hat⟩
  refine wp_mono (h i hI a W hat) ?_
  rintro e a' W' ⟨σ', h1, h2⟩
  cases e with
  | normal =>
    obtain ⟨j, g1, g2, g3⟩ := h1
    exact ⟨μ j, g2, j, g1, rfl, g3 a' W' h2⟩
  | _ => exact ⟨σ', h1, h2⟩
end
end Go.Proofs.Ytgnnmifpfgpllaa
/- Functions, on abstract states: a contract from a walk of the body. -/
namespace Go.Proofs.Ytgnnmifpfgpllaa
open Go.RowKit
def ren1 (m : Nat → Nat) : AV → AV
  | .own k n => .own (m k) n
  | x => x
def ren2 (m : Nat → Nat) : AV → AV
  | .agg cs => .agg (cs.map (ren1 m))
  | x => ren1 m x
def ren3 (m : Nat → Nat) : AV → AV
  | .tup cs => .tup (cs.map (ren2 m))
  | x => ren2 m x
def AO.ren (m : Nat → Nat) : AO → AO
  | .mix e sz rows => .mix e sz (rows.map fun r => r.map (ren1 m))
  | x => x
def ok1 (n : Nat) : AV → Bool
  | .lit _ => true
  | .cel => true
  | .own k _ => decide (k < n)
  | _ => false
def ok2 (n : Nat) : AV → Bool
  | .agg cs => cs.all (ok1 n)
  | x => ok1 n x
def ok3 (n : Nat) : AV → Bool
  | .tup cs => cs.all (ok2 n)
  | x => ok2 n x
def AO.ok (n : Nat) : AO → Bool
  | .row _ _ _ => true
  | .mix _ _ rows => rows.all fun r => r.all (ok1 n)
  | _ => false
section
variable {C C' : Cx} {m m' : Nat → Nat} {n : Nat}
def RenLe (n : Nat) (m m' : Nat → Nat) (C C' : Cx) : Prop := ∀ k, k < n → ∀ a, C.len (m k) = some a → C'.len (m' k) = some a ∧ C'.ρ (m' k) = C.ρ (m k)
theorem ren1_rep (h : RenLe n m m' C C') {x : AV} (hx : ok1 n x = true) {u : Value} (hr : Rep C (ren1 m x) u) : Rep C' (ren1 m' x) u := by
  cases x with
  | lit v => rw [hr.lit_eq]; exact .lit _
  | cel => cases hr with | cel h1 => exact .cel h1
  | own k a =>
    have hk : k < n := by simpa [ok1] using hx
    cases hr with
    | own h1 hn hs h2 =>
      obtain ⟨g1, g2⟩ := h k hk _ h1
      exact .own g1 hn hs (fun e => by rw [g2]; exact h2 e)
  | _ => simp [ok1] at hx
theorem ren1_reps (h : RenLe n m m' C C') : ∀ {cs : List AV} (_ : cs.all (ok1 n) = true) {us : List Value} (_ : Reps C (cs.map (ren1 m)) us), Reps C' (cs.map (ren1 m')) us
  | [], _, us, hr => by rw [hr.nil_of]; exact .nil
  | c :: cs, hx, us, hr => by
    simp only [List.all_cons, Bool.and_eq_true] at hx
    obtain ⟨u, us', rfl, h1, h2⟩ := hr.cons_of
    exact .cons (ren1_rep h hx.1 h1) (ren1_reps h hx.2 h2)
theorem ren2_rep (h : RenLe n m m' C C') {x : AV} (hx : ok2 n x = true) {u : Value} (hr : Rep C (ren2 m x) u) : Rep C' (ren2 m' x) u := by
  cases x with
  | agg cs =>
    obtain ⟨us, rfl, h1⟩ := Rep.agg_of hr
    have := ren1_reps h hx h1
    exact .agg this.1 this.2
  | lit v => exact ren1_rep (x := .lit v) h hx hr
  | cel => exact ren1_rep (x := .cel) h hx hr
  | own k a => exact ren1_rep (x := .own k a) h hx hr
  | _ => simp [ok2, ok1] at hx
theorem ren2_reps (h : RenLe n m m' C C') : ∀ {cs : List AV} (_ : cs.all (ok2 n) = true) {us : List Value} (_ : Reps C (cs.map (ren2 m)) us), Reps C' (cs.map (ren2 m')) us
  | [], _, us, hr => by rw [hr.nil_of]; exact .nil
  | c :: cs, hx, us, hr => by
    simp only [List.all_cons, Bool.and_eq_true] at hx
    obtain ⟨u, us', rfl, h1, h2⟩ := hr.cons_of
    exact .cons (ren2_rep h hx.1 h1) (ren2_reps h hx.2 h2)
theorem ren3_rep (h : RenLe n m m' C C') {x : AV} (hx : ok3 n x = true) {u : Value} (hr : Rep C (ren3 m x) u) : Rep C' (ren3 m' x) u := by
  cases x with
  | tup cs =>
    obtain ⟨us, rfl, h1⟩ := Rep.tup_of hr
    have := ren2_reps h hx h1
    exact .tup this.1 this.2
  | agg cs => exact ren2_rep (x := .agg cs) h hx hr
  | lit v => exact ren2_rep (x := .lit v) h hx hr
  | cel => exact ren2_rep (x := .cel) h hx hr
  | own k a => exact ren2_rep (x := .own k a) h hx hr
  | _ => simp [ok3, ok2, ok1] at hx
theorem flatten_map2 (f : AV → AV) : ∀ rows : List (List AV), (rows.map fun r => r.map f).flatten = rows.flatten.map f
  | [] => rfl
  | r :: rows => by simp only [List.map_cons, List.flatten_cons, List.map_append, flatten_map2 f rows]
theorem AO.ren_own (h : RenLe n m m' C C') (hW : C'.W = C.W) {x : AO} (hx : x.ok n = true) {lo : Nat} {v : Value} {bs : List Nat} (hr : (x.ren m).own C lo v bs) : (x.ren m').own C' lo v bs := by
  cases x with
  | row e t xs =>
    show ownL C'.W lo e t xs v bs
    rw [hW]; exact hr
  | mix e sz rows =>
    obtain ⟨us, h1, h2, h3, h4⟩ := hr
    refine ⟨us, by rw [hW]; simpa using h1, ?_, fun r hr => ?_, h4⟩
    · rw [flatten_map2] at h2 ⊢
      refine ren1_reps h ?_ h2
      rw [List.all_eq_true]
      intro c hc
      obtain ⟨r, hr1, hr2⟩ := List.mem_flatten.1 hc
      exact List.all_eq_true.1 (List.all_eq_true.1 hx r hr1) c hr2
    · obtain ⟨r0, hr0, rfl⟩ := List.mem_map.1 hr
      have := h3 (r0.map (ren1 m)) (List.mem_map_of_mem hr0)
      simpa using this
  | _ => simp [AO.ok] at hx
end
/-- a contract with its new objects numbered from 0 -/
abbrev Con0 := List AV → Option (Prop × AV × List AO)
def numb (m : Nat → Nat) (obs : List AO) : List (Nat × AO) := obs.zipIdx.map fun p => (m p.2, p.1.ren m)
def mkD (C : Con0) : DCon := fun nid args => (C args).map fun r => (r.1, ren3 (nid + ·) r.2.1, numb (nid + ·) r.2.2)
def mk (C : Con0) : Con := (mkD C).lift
def resOne (Θ : TypeId → Option TI) (σ : AS) : ResultVar → Option AV
  | .tmp t => σ.get t
  | .cell p T => match σ.get p, Θ T with
    | some (.box o off), some ti => match σ.obj o with
      | .box _ cs => loadAV ti (cs.drop off)
      | _ => none
    | _, _ => none
def resAV (Θ : TypeId → Option TI) (σ : AS) (rs : List ResultVar) : Option AV := match rs.mapM (resOne Θ σ) with
  | some [x] => some x
  | some l => some (.tup l)
  | none => none
section
variable {P : Program} {Θ : TypeId → Option TI} {w0 : World} {N : Nat}
def resRun (a : Act) : ResultVar → Sem Value
  | .tmp t => pure (a.tmps.getD t undef)
  | .cell p T => do loadVar T (← asAddr (a.tmps.getD p undef))
theorem resOne_sound (hΘ : ∀ t ti, Θ t = some ti → ti.ok P t) {σ : AS} {a : Act} {W : World} {ρ : Nat → Value} {β : Nat → List Nat} (h : RelW w0 σ.get σ.obj a W ρ β) {r : ResultVar} {x : AV} (hx : resOne Θ σ r = some x) : ∃ v, (resRun a r).run P W = .ok v W ∧ Rep (cxOf σ.obj W ρ β) x v := by
  cases r with
  | tmp t =>
    obtain ⟨v, h1, h2⟩ := h.slots t x hx
    refine ⟨v, ?_, h2⟩
    simp [resRun, h1]
  | cell p T =>
    simp only [resOne] at hx
    split at hx
    · rename_i o off ti e1 e2
      split at hx
      · rename_i e cs hob
        obtain ⟨v, h1, h2⟩ := h.slots p _ e1
        obtain ⟨g, us, rfl, h3, h4, h5, h6⟩ := h.boxAt hob h2
        obtain ⟨v, hv1, hv2⟩ := load_any (C := cxOf σ.obj W ρ β) (hΘ _ _ e2) (ad := ⟨g, off, none⟩) hx (h5.drop off) (fun j u hj => by
          rw [List.getElem?_drop] at hj
          have := h4.cells (g := g) rfl (off + j) u hj
          rw [Addr.add_lit, Nat.zero_add] at this
          rw [Addr.add_lit]; exact this)
        refine ⟨v, ?_, hv2⟩
        have : (loadVar T ⟨g, off, none⟩).run P W = .ok v W := by simpa [Instr.loadAt, Instr.sureAddr] using hv1
        simp [resRun, h1, asAddr, this]
      · cases hx
    · cases hx
theorem res_sound (hΘ : ∀ t ti, Θ t = some ti → ti.ok P t) {σ : AS} {a : Act} {W : World} {ρ : Nat → Value} {β : Nat → List Nat} (h : RelW w0 σ.get σ.obj a W ρ β) {fn : Func} {rs : List ResultVar} (hrs : fn.results = rs.toArray) (hlen : rs.length ≤ 4) {x : AV} (hx : resAV Θ σ rs = some x) : ∃ v, (results fn a.tmps).run P W = .ok v W ∧ Rep (cxOf σ.obj W ρ β) x v := by
  have hf : ∀ r, (match r with
      | .tmp t => pure (a.tmps.getD t undef)
      | .cell p T => do loadVar T (← asAddr (a.tmps.getD p undef)) : Sem Value) = resRun a r := fun r => by cases r <;> rfl
  have hrun : (results fn a.tmps).run P W = (do let vs ← rs.toArray.mapM (resRun a); pure (if h : vs.size = 1 then vs[0] else .tuple vs) : Sem Value).run P W := by
    unfold results
    rw [hrs]
    rfl
  rw [hrun]
  unfold resAV at hx
  clear hrun hrs
  match rs, hlen, hx with
  | [], _, hx =>
    simp at hx; subst hx
    exact ⟨.tuple #[], by simp, .tup (vs := []) rfl (fun j c u h => by simp at h)⟩
  | [r1], _, hx =>
    cases h1 : resOne Θ σ r1 with
    | none => simp [h1] at hx
    | some x1 =>
      simp [h1] at hx; subst hx
      obtain ⟨v1, g1, g2⟩ := resOne_sound (P := P) hΘ h h1
      exact ⟨v1, by simp [g1], g2⟩
  | [r1, r2], _, hx =>
    cases h1 : resOne Θ σ r1 with
    | none => simp [h1] at hx
    | some x1 =>
      cases h2 : resOne Θ σ r2 with
      | none => simp [h1, h2] at hx
      | some x2 =>
        simp [h1, h2] at hx; subst hx
        obtain ⟨v1, g1, g2⟩ := resOne_sound (P := P) hΘ h h1
        obtain ⟨v2, g3, g4⟩ := resOne_sound (P := P) hΘ h h2
        have := Reps.cons g2 (.cons g4 .nil)
        exact ⟨.tuple #[v1, v2], by simp [g1, g3], .tup this.1 this.2⟩
  | [r1, r2, r3], _, hx =>
    cases h1 : resOne Θ σ r1 with
    | none => simp [h1] at hx
    | some x1 =>
      cases h2 : resOne Θ σ r2 with
      | none => simp [h1, h2] at hx
      | some x2 =>
        cases h3 : resOne Θ σ r3 with
        | none => simp [h1, h2, h3] at hx
        | some x3 =>
          simp [h1, h2, h3] at hx; subst hx
          obtain ⟨v1, g1, g2⟩ := resOne_sound (P := P) hΘ h h1
          obtain ⟨v2, g3, g4⟩ := resOne_sound (P := P) hΘ h h2
          obtain ⟨v3, g5, g6⟩ := resOne_sound (P := P) hΘ h h3
          have := Reps.cons g2 (.cons g4 (.cons g6 .nil))
          exact ⟨.tuple #[v1, v2, v3], by simp [g1, g3, g5], .tup this.1 this.2⟩
  | [r1, r2, r3, r4], _, hx =>
    cases h1 : resOne Θ σ r1 with
    | none => simp [h1] at hx
    | some x1 =>
      cases h2 : resOne Θ σ r2 with
      | none => simp [h1, h2] at hx
      | some x2 =>
        cases h3 : resOne Θ σ r3 with
        | none => simp [h1, h2, h3] at hx
        | some x3 =>
          cases h4 : resOne Θ σ r4 with
          | none => simp [h1, h2, h3, h4] at hx
          | some x4 =>
            simp [h1, h2, h3, h4] at hx; subst hx
            obtain ⟨v1, g1, g2⟩ := resOne_sound (P := P) hΘ h h1
            obtain ⟨v2, g3, g4⟩ := resOne_sound (P := P) hΘ h h2
            obtain ⟨v3, g5, g6⟩ := resOne_sound (P := P) hΘ h h3
            obtain ⟨v4, g7, g8⟩ := resOne_sound (P := P) hΘ h h4
            have := Reps.cons g2 (.cons g4 (.cons g6 (.cons g8 .nil)))
            exact ⟨.tuple #[v1, v2, v3, v4], by simp [g1, g3, g5, g7], .tup this.1 this.2⟩
  | _ :: _ :: _ :: _ :: _ :: _, h, _ => simp at h
end
end Go.Proofs.Ytgnnmifpfgpllaa
/- A function's contract from a walk of its body, on abstract states. -/
namespace Go.Proofs.Ytgnnmifpfgpllaa
open Go.RowKit
def initFrom (k : Nat) : List AV → List (Nat × AV)
  | [] => []
  | x :: l => (k, x) :: initFrom (k + 1) l
def initS (args : List AV) : AS := ⟨initFrom 0 args, [], 0, fun _ => .dead⟩
theorem initFrom_get : ∀ (args : List AV) (k t : Nat) (x : AV), look (initFrom k args) t = some x → k ≤ t ∧ args[t - k]? = some x
  | [], k, t, x, h => by simp [initFrom, look] at h
  | y :: l, k, t, x, h => by
    simp only [initFrom, look] at h
    split at h
    · rename_i e
      subst e
      cases h
      exact ⟨Nat.le_refl _, by simp⟩
    · obtain ⟨h1, h2⟩ := initFrom_get l (k + 1) t x h
      refine ⟨by omega, ?_⟩
      rw [show t - k = (t - (k + 1)) + 1 by omega]
      simpa using h2
theorem ok1_res {n : Nat} {m : Nat → Nat} {x : AV} (h : ok1 n x = true) : (ren1 m x).res1 = true := by cases x <;> simp [ok1] at h <;> rfl
theorem ok2_res {n : Nat} {m : Nat → Nat} {x : AV} (h : ok2 n x = true) : (ren2 m x).res2 = true := by
  cases x with
  | agg cs =>
    simp only [ok2, List.all_eq_true] at h
    simp only [ren2, AV.res2, List.all_eq_true]
    intro c hc
    obtain ⟨c', h1, rfl⟩ := List.mem_map.1 hc
    exact ok1_res (h c' h1)
  | lit v => rfl
  | cel => rfl
  | own k a => rfl
  | _ => simp [ok2, ok1] at h
theorem ok3_res {n : Nat} {m : Nat → Nat} {x : AV} (h : ok3 n x = true) : (ren3 m x).res = true := by
  cases x with
  | tup cs =>
    simp only [ok3, List.all_eq_true] at h
    simp only [ren3, AV.res, List.all_eq_true]
    intro c hc
    obtain ⟨c', h1, rfl⟩ := List.mem_map.1 hc
    exact ok2_res (h c' h1)
  | agg cs => exact ok2_res (x := .agg cs) h
  | lit v => rfl
  | cel => rfl
  | own k a => rfl
  | _ => simp [ok3, ok2, ok1] at h
theorem AO.ok_res {n : Nat} {m : Nat → Nat} {x : AO} (h : x.ok n = true) : (x.ren m).res = true := by
  cases x with
  | row e t xs => rfl
  | mix e sz rows =>
    simp only [AO.ok, List.all_eq_true] at h
    simp only [AO.ren, AO.res, List.all_eq_true]
    intro r hr c hc
    obtain ⟨r', h1, rfl⟩ := List.mem_map.1 hr
    obtain ⟨c', h2, rfl⟩ := List.mem_map.1 hc
    exact ok1_res (h r' h1 c' h2)
  | _ => simp [AO.ok] at h
theorem numb_mem {m : Nat → Nat} {obs : List AO} {p : Nat × AO} (h : p ∈ numb m obs) : ∃ i ob, obs[i]? = some ob ∧ p = (m i, ob.ren m) := by
  obtain ⟨q, h1, rfl⟩ := List.mem_map.1 h
  rw [List.mem_zipIdx_iff_getElem?] at h1
  exact ⟨q.2, q.1, h1, rfl⟩
theorem numb_obj {nid : Nat} {obs : List AO} {i : Nat} {ob : AO} (h : obs[i]? = some ob) : setE noObj (numb (nid + ·) obs) (nid + i) = ob.ren (nid + ·) := by
  obtain ⟨p, h1, h2, h3⟩ := setE_mem (obj := noObj) (l := numb (nid + ·) obs) (o := nid + i) ⟨(nid + i, ob.ren (nid + ·)), List.mem_map.2 ⟨(ob, i), List.mem_zipIdx_iff_getElem?.2 h, rfl⟩, rfl⟩
  obtain ⟨j, ob', g1, rfl⟩ := numb_mem h1
  have : j = i := by simp only at h2; omega
  subst this
  rw [h] at g1; injection g1 with g1; subst g1
  exact h3
theorem numb_live {nid : Nat} {obs : List AO} {o : Nat} (h : (setE noObj (numb (nid + ·) obs) o).len ≠ none) : ∃ i ob, obs[i]? = some ob ∧ o = nid + i := by
  by_cases he : ∃ p ∈ numb (nid + ·) obs, p.1 = o
  · obtain ⟨p, h1, rfl⟩ := he
    obtain ⟨j, ob', g1, rfl⟩ := numb_mem h1
    exact ⟨j, ob', g1, rfl⟩
  · exact absurd (by rw [setE_out fun p hp e => he ⟨p, hp, e⟩]; rfl) h
theorem AO.ren_len {m : Nat → Nat} {x : AO} : (x.ren m).len = x.len := by cases x <;> simp [AO.ren, AO.len]
section
variable {P : Program} {Θ : TypeId → Option TI}
/-- what the body's walk must come to -/
def EndsAt (Θ : TypeId → Option TI) (rs : List ResultVar) (x : AV) (obs : List AO) (e : Exit) (σ : AS) : Prop :=
  (e = .normal ∨ e = .ret) ∧ ∃ l : List Nat, l.length = obs.length ∧ l.Nodup ∧ resAV Θ σ rs = some (ren3 (fun k => l.getD k 0) x) ∧ ∀ (i : Nat) ob, obs[i]? = some ob → σ.obj (l.getD i 0) = ob.ren (fun k => l.getD k 0)
theorem Con0.okOf {f : FuncId} {fn : Func} {code : Code} {C : Con0} {N : Nat} {rs : List ResultVar} (hΘ : ∀ t ti, Θ t = some ti → ti.ok P t) (hf : P.funcs[f]? = some fn) (hb : fn.body = some code) (hN : fn.ntmps = N) (hrs : fn.results = rs.toArray) (hrl : rs.length ≤ 4) (hent : ∀ args w, (callFunc f args).run P w = .ok (.enter f args) w)
    (hsh : ∀ args c x obs, C args = some (c, x, obs) → ok3 obs.length x = true ∧ obs.all (AO.ok obs.length) = true ∧ args.length ≤ N)
    (hbody : ∀ args c x obs, C args = some (c, x, obs) → c → ∀ w0, AWp P w0 N code (initS args) (EndsAt Θ rs x obs)) : (mkD C).ok P f := by
  have hmk : ∀ nid args c x objs, mkD C nid args = some (c, x, objs) → ∃ x0 obs, C args = some (c, x0, obs) ∧ x = ren3 (nid + ·) x0 ∧ objs = numb (nid + ·) obs := by
    intro nid args c x objs h
    simp only [mkD, Option.map_eq_some_iff] at h
    obtain ⟨⟨c', x0, obs⟩, h1, h2⟩ := h
    cases h2
    exact ⟨x0, obs, h1, rfl, rfl⟩
  refine ⟨hent, fun nid args c x objs h => ?_, fun nid args c x objs h hc w vs hv => ?_⟩
  · obtain ⟨x0, obs, h1, rfl, rfl⟩ := hmk nid args c x objs h
    obtain ⟨g1, g2, _⟩ := hsh args c x0 obs h1
    refine ⟨ok3_res g1, fun p hp => ?_⟩
    obtain ⟨i, ob, h3, rfl⟩ := numb_mem hp
    exact ⟨AO.ok_res (List.all_eq_true.1 g2 ob (List.mem_of_getElem? h3)), Nat.le_add_right _ _⟩
  · obtain ⟨x0, obs, h1, rfl, rfl⟩ := hmk nid args c x objs h
    obtain ⟨g1, g2, g3⟩ := hsh args c x0 obs h1
    refine calls_of_wp hf hb ?_
    have hvl : vs.length = args.length := hv.1
    have hinit : AtS w N (initS args) { tmps := vs.toArray ++ Array.replicate (fn.ntmps - vs.toArray.size) undef, defers := [] } w := by
      refine ⟨by simp [hN]; omega, fun _ => .bool false, fun _ => [], Below.refl _ _, fun o => trivial, fun o b ho => absurd rfl ho, fun o o' b ho => absurd rfl ho, fun o ho => absurd rfl ho, fun t x hx => ?_, rfl⟩
      obtain ⟨_, h3⟩ := initFrom_get args 0 t x hx
      simp only [Nat.sub_zero] at h3
      have hlt : t < args.length := (List.getElem?_eq_some_iff.1 h3).1
      refine ⟨vs[t]'(by omega), ?_, ?_⟩
      · rw [Array.getElem?_append_left (by simp; omega)]
        simp
      · have := hv.2 t x _ h3 (List.getElem?_eq_getElem (by omega))
        have hle : Cx.Le (cx0 w) (cxOf noObj w (fun _ => .bool false) (fun _ => [])) := ⟨fun b hb => ⟨hb, fun o ho => absurd rfl ho⟩, fun p _ => rfl, fun o n h => (by cases h), fun o n h => (by cases h)⟩
        exact Rep.le hle this
    refine wp_mono (hbody args c x0 obs h1 hc w _ _ hinit) ?_
    rintro e a' w' ⟨σ', ⟨he, l, hl, hnd, hres, hob⟩, hsz, ρ, β, hr⟩
    obtain ⟨v, hv1, hv2⟩ := res_sound (P := P) hΘ hr hrs hrl hres
    -- the state that the caller sees
    let m : Nat → Nat := fun k => l.getD k 0
    have hinj : ∀ i j, i < obs.length → j < obs.length → m i = m j → i = j := by
      intro i j hi hj hm
      have e1 : m i = l[i]'(by omega) := by simp only [m]; rw [List.getD_eq_getElem?_getD, List.getElem?_eq_getElem (by omega)]; rfl
      have e2 : m j = l[j]'(by omega) := by simp only [m]; rw [List.getD_eq_getElem?_getD, List.getElem?_eq_getElem (by omega)]; rfl
      rw [e1, e2] at hm
      rcases Nat.lt_trichotomy i j with h | h | h
      · exact absurd hm (List.pairwise_iff_getElem.1 hnd i j (by omega) (by omega) h)
      · exact h
      · exact absurd hm.symm (List.pairwise_iff_getElem.1 hnd j i (by omega) (by omega) h)
    have hlive : ∀ i ob, obs[i]? = some ob → (σ'.obj (m i)).len ≠ none := by
      intro i ob hi
      rw [hob i ob hi, AO.ren_len]
      have := List.all_eq_true.1 g2 ob (List.mem_of_getElem? hi)
      cases ob <;> simp [AO.ok] at this <;> simp [AO.len]
    have hle : RenLe obs.length m (nid + ·) (cxOf σ'.obj w' ρ β) (cxOf (setE noObj (numb (nid + ·) obs)) w' (fun o => ρ (m (o - nid))) (fun o => β (m (o - nid)))) := by
      intro k hk a ha
      have hok : obs[k]? = some obs[k] := List.getElem?_eq_getElem hk
      refine ⟨?_, by simp⟩
      show (setE noObj (numb (nid + ·) obs) (nid + k)).len = some a
      rw [numb_obj hok, AO.ren_len]
      have ha' : (σ'.obj (m k)).len = some a := ha
      rw [hob k _ hok, AO.ren_len] at ha'
      exact ha'
    have hrel : RelW w (fun _ => none) (setE noObj (numb (nid + ·) obs)) ⟨#[], []⟩ w' (fun o => ρ (m (o - nid))) (fun o => β (m (o - nid))) := by
      refine ⟨hr.below, fun o => ?_, fun o b ho hb => ?_, fun o o' b ho ho' hb hb' => ?_, fun o ho => ?_, fun t x hx => (by cases hx), rfl⟩
      · by_cases hl' : (setE noObj (numb (nid + ·) obs) o).len = none
        · cases hx : setE noObj (numb (nid + ·) obs) o with
          | dead => trivial
          | _ => rw [hx] at hl'; simp [AO.len] at hl'
        · obtain ⟨i, ob, hi, rfl⟩ := numb_live hl'
          rw [numb_obj hi]
          have hown := hr.objs (m i)
          rw [hob i ob hi] at hown
          have := AO.ren_own hle rfl (List.all_eq_true.1 g2 ob (List.mem_of_getElem? hi)) hown
          simpa using this
      · obtain ⟨i, ob, hi, rfl⟩ := numb_live ho
        simp only [Nat.add_sub_cancel_left] at hb
        exact hr.lt (m i) b (hlive i ob hi) hb
      · obtain ⟨i, ob, hi, rfl⟩ := numb_live ho
        obtain ⟨j, ob', hj, rfl⟩ := numb_live ho'
        simp only [Nat.add_sub_cancel_left] at hb hb'
        have := hr.apart (m i) (m j) b (hlive i ob hi) (hlive j ob' hj) hb hb'
        rw [hinj i j (List.getElem?_eq_some_iff.1 hi).1 (List.getElem?_eq_some_iff.1 hj).1 this]
      · obtain ⟨i, ob, hi, rfl⟩ := numb_live ho
        simp only [Nat.add_sub_cancel_left]
        exact hr.nodup (m i) (hlive i ob hi)
    have hfin : ∃ u ρ β, Ending.returned v = .returned u ∧ RelW w (fun _ => none) (setE noObj (numb (nid + ·) obs)) ⟨#[], []⟩ w' ρ β ∧ Rep (cxOf (setE noObj (numb (nid + ·) obs)) w' ρ β) (ren3 (nid + ·) x0) u := ⟨v, _, _, rfl, hrel, ren3_rep hle g1 hv2⟩
    rcases he with rfl | rfl
    · exact ⟨hr.defers, v, hv1, hfin⟩
    · exact ⟨hr.defers, v, hv1, hfin⟩
end
end Go.Proofs.Ytgnnmifpfgpllaa
