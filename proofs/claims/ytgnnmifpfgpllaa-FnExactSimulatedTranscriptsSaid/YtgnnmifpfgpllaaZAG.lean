import Derived.Test.YtgnnmifpfgpllaaZAF
/- Abstract walks: contracts over typed data. -/
set_option linter.all false
set_option linter.unusedVariables false
set_option linter.unusedSimpArgs false
namespace Go.Proofs.Ytgnnmifpfgpllaa
open Go.RowKit
def asI1 : List AV → Option Int
  | [.lit (.int .i64 n)] => some n
  | _ => none
def asB1 : List AV → Option Bool
  | [.lit (.bool b)] => some b
  | _ => none
def asS1 : List AV → Option ByteArray
  | [.lit (.string s)] => some s
  | _ => none
def asL1 (t : Ty) : List AV → Option (List t.den)
  | [.sl t' xs] => if e : t' = t then some (e ▸ xs) else none
  | [.lit (.slice none 0 0)] => some []
  | _ => none
/-- cells read as a datum -/
def asTy : (t : Ty) → List AV → Option t.den
  | .int, cs => asI1 cs
  | .bool, cs => asB1 cs
  | .str, cs => asS1 cs
  | .pair a b, cs => match asTy a (cs.take a.sz), asTy b (cs.drop a.sz) with
    | some x, some y => some (x, y)
    | _, _ => none
  | .list t, cs => asL1 t cs
def asArg (t : Ty) (x : AV) : Option t.den := match x with
  | .agg cs => match t with
    | .pair a b => asTy (.pair a b) cs
    | _ => none
  | x => match t with
    | .pair _ _ => none
    | t => asTy t [x]
/-- a datum as an argument -/
def canon : (t : Ty) → t.den → AV
  | .int, n => .lit (.int .i64 n)
  | .bool, b => .lit (.bool b)
  | .str, s => .lit (.string s)
  | .list t, xs => .sl t xs
  | .pair a b, x => .agg (Ty.cells (.pair a b) x)
@[reducible] def HL : List Ty → Type
  | [] => Unit
  | t :: ts => t.den × HL ts
def asArgs : (ts : List Ty) → List AV → Option (HL ts)
  | [], [] => some ()
  | t :: ts, x :: xs => match asArg t x, asArgs ts xs with
    | some d, some ds => some (d, ds)
    | _, _ => none
  | _, _ => none
def canons : (ts : List Ty) → HL ts → List AV
  | [], _ => []
  | t :: ts, d => canon t d.1 :: canons ts d.2
theorem asTy_sound {w : World} : ∀ (t : Ty) (cs : List AV) (d : t.den) (us : List Value), asTy t cs = some d → Reps (cx0 w) cs us → Reps (cx0 w) (t.cells d) us
  | .int, cs, d, us, h, hr => by
    simp only [asTy] at h
    unfold asI1 at h
    split at h
    · cases h; exact hr
    · cases h
  | .bool, cs, d, us, h, hr => by
    simp only [asTy] at h
    unfold asB1 at h
    split at h
    · cases h; exact hr
    · cases h
  | .str, cs, d, us, h, hr => by
    simp only [asTy] at h
    unfold asS1 at h
    split at h
    · cases h; exact hr
    · cases h
  | .pair a b, cs, d, us, h, hr => by
    simp only [asTy] at h
    split at h
    · rename_i x y e1 e2
      cases h
      have h1 := asTy_sound a _ _ _ e1 (hr.take a.sz)
      have h2 := asTy_sound b _ _ _ e2 (hr.drop a.sz)
      have := h1.append h2
      rwa [List.take_append_drop] at this
    · cases h
  | .list t, cs, d, us, h, hr => by
    simp only [asTy] at h
    unfold asL1 at h
    split at h
    · rename_i t' xs
      split at h
      · rename_i e
        subst e
        cases h
        exact hr
      · cases h
    · cases h
      obtain ⟨u, us, rfl, h1, h2⟩ := hr.cons_of
      rw [h2.nil_of, h1.lit_eq]
      exact .cons (.sl ⟨none, 0, rfl, by simp, by simp, fun h => by simp at h⟩) .nil
    · cases h
theorem canon_one {w : World} {t : Ty} (hp : ∀ a b, t ≠ .pair a b) {d : t.den} {u : Value} (h : Reps (cx0 w) (t.cells d) [u]) : Rep (cx0 w) (canon t d) u := by
  cases t with
  | pair a b => exact absurd rfl (hp a b)
  | _ => exact h.out.1
theorem asArg_sound {w : World} {t : Ty} {x : AV} {d : t.den} {u : Value} (h : asArg t x = some d) (hr : Rep (cx0 w) x u) : Rep (cx0 w) (canon t d) u := by
  cases t with
  | pair a b =>
    cases x with
    | agg cs =>
      obtain ⟨us, rfl, h1⟩ := hr.agg_of
      have := asTy_sound (.pair a b) cs d us h h1
      exact .agg this.1 this.2
    | _ => simp [asArg] at h
  | int => cases x with
    | agg cs => simp [asArg] at h
    | _ => exact canon_one (fun a b e => by cases e) (asTy_sound .int [_] d [u] h (.cons hr .nil))
  | bool => cases x with
    | agg cs => simp [asArg] at h
    | _ => exact canon_one (fun a b e => by cases e) (asTy_sound .bool [_] d [u] h (.cons hr .nil))
  | str => cases x with
    | agg cs => simp [asArg] at h
    | _ => exact canon_one (fun a b e => by cases e) (asTy_sound .str [_] d [u] h (.cons hr .nil))
  | list t => cases x with
    | agg cs => simp [asArg] at h
    | _ => exact canon_one (fun a b e => by cases e) (asTy_sound (.list t) [_] d [u] h (.cons hr .nil))
theorem asArgs_sound {w : World} : ∀ (ts : List Ty) (xs : List AV) (d : HL ts) (us : List Value), asArgs ts xs = some d → Reps (cx0 w) xs us → Reps (cx0 w) (canons ts d) us
  | [], [], _, us, _, hr => hr
  | [], _ :: _, _, _, h, _ => by simp [asArgs] at h
  | _ :: _, [], _, _, h, _ => by simp [asArgs] at h
  | t :: ts, x :: xs, d, us, h, hr => by
    unfold asArgs at h
    split at h
    · rename_i d1 ds e1 e2
      cases h
      obtain ⟨u, us, rfl, h1, h2⟩ := hr.cons_of
      exact .cons (asArg_sound e1 h1) (asArgs_sound ts xs ds us e2 h2)
    · cases h
theorem asArgs_len : ∀ (ts : List Ty) (xs : List AV) (d : HL ts), asArgs ts xs = some d → xs.length = (canons ts d).length
  | [], [], _, _ => rfl
  | [], _ :: _, _, h => by simp [asArgs] at h
  | _ :: _, [], _, h => by simp [asArgs] at h
  | t :: ts, x :: xs, d, h => by
    unfold asArgs at h
    split at h
    · rename_i d1 ds e1 e2
      cases h
      simp only [canons, List.length_cons, asArgs_len ts xs ds e2]
    · cases h
/-- a contract over typed data: its condition, its result, its new objects -/
def conF (ts : List Ty) (F : HL ts → Prop × AV × List AO) : Con0 := fun args => (asArgs ts args).map F
theorem okF {P : Program} {Θ : TypeId → Option TI} {f : FuncId} {fn : Func} {N : Nat} {rs : List ResultVar} (hΘ : ∀ t ti, Θ t = some ti → ti.ok P t) (hf : P.funcs[f]? = some fn) (hb : fn.body.isNone = false) (hN : fn.ntmps = N) (hrs : fn.results = rs.toArray) (hrl : rs.length ≤ 4) (hname : (fn.name == "runtime.NumGoroutine") = false) {ts : List Ty} {F : HL ts → Prop × AV × List AO}
    (h : ∀ d : HL ts, ok3 (F d).2.2.length (F d).2.1 = true ∧ (F d).2.2.all (AO.ok (F d).2.2.length) = true ∧ (canons ts d).length ≤ N ∧ ((F d).1 → ∀ w0, AWp P w0 N (fn.body.getD .skip) (initS (canons ts d)) (EndsAt Θ rs (F d).2.1 (F d).2.2))) : (mk (conF ts F)).ok P f :=
  Con0.okOf2 hΘ hf hb hN hrs hrl hname fun args c x obs he => by
    simp only [conF, Option.map_eq_some_iff] at he
    obtain ⟨d, h1, h2⟩ := he
    obtain ⟨g1, g2, g3, g4⟩ := h d
    rw [h2] at g1 g2 g4
    exact ⟨g1, g2, by rw [asArgs_len ts args d h1]; exact g3, canons ts d, (asArgs_len ts args d h1).symm, fun w vs hv => asArgs_sound ts args d vs h1 hv, g4⟩
/-- a contract over arguments of one form -/
def conR {α : Type} (m : List AV → Option α) (F : α → Prop × AV × List AO) : Con0 := fun args => (m args).map F
theorem okR {P : Program} {Θ : TypeId → Option TI} {f : FuncId} {fn : Func} {N : Nat} {rs : List ResultVar} (hΘ : ∀ t ti, Θ t = some ti → ti.ok P t) (hf : P.funcs[f]? = some fn) (hb : fn.body.isNone = false) (hN : fn.ntmps = N) (hrs : fn.results = rs.toArray) (hrl : rs.length ≤ 4) (hname : (fn.name == "runtime.NumGoroutine") = false) {α : Type} {m : List AV → Option α} {F : α → Prop × AV × List AO} (can : α → List AV) (hcan : ∀ args d, m args = some d → args = can d)
    (h : ∀ d : α, ok3 (F d).2.2.length (F d).2.1 = true ∧ (F d).2.2.all (AO.ok (F d).2.2.length) = true ∧ (can d).length ≤ N ∧ ((F d).1 → ∀ w0, AWp P w0 N (fn.body.getD .skip) (initS (can d)) (EndsAt Θ rs (F d).2.1 (F d).2.2))) : (mk (conR m F)).ok P f :=
  Con0.okOf2 hΘ hf hb hN hrs hrl hname fun args c x obs he => by
    simp only [conR, Option.map_eq_some_iff] at he
    obtain ⟨d, h1, h2⟩ := he
    obtain ⟨g1, g2, g3, g4⟩ := h d
    rw [h2] at g1 g2 g4
    exact ⟨g1, g2, by rw [hcan args d h1]; exact g3, can d, by rw [hcan args d h1], fun w vs hv => by rw [← hcan args d h1]; exact hv, g4⟩
/-- a condition with what follows of it -/
structure Ens (p q : Prop) : Prop where
  p : p
  q : q
class Post (p : Prop) (q : outParam Prop) : Prop where
  out : p → q
theorem ens_step {p q r : Prop} [i : Post p q] (hp : p) (h : q → r) : Ens p q ∧ r := ⟨⟨hp, i.out hp⟩, h (i.out hp)⟩
/-! loops, told by what turns -/
def without {α : Type} : List (Nat × α) → List Nat → List (Nat × α)
  | [], _ => []
  | (k, x) :: l, s => if k ∈ s then without l s else (k, x) :: without l s
def keys {α : Type} : List (Nat × α) → List Nat
  | [] => []
  | (k, _) :: l => k :: keys l
def AS.over2 (σ : AS) (Wr : List Nat) (ov : List (Nat × AV)) (oo : List (Nat × AO)) : AS := ⟨ov ++ without σ.sl Wr, oo ++ without σ.hp (keys oo), σ.nx, σ.fr⟩
def dropK (a b : List Nat) : List Nat := a.filter fun k => !b.contains k
def subE {α : Type} (l : List (Nat × α)) : List (Nat × α) → Prop
  | [] => True
  | (k, x) :: r => look l k = some x ∧ subE l r
def freeS (D : List Nat) : List (Nat × AV) → Bool
  | [] => true
  | (_, x) :: r => x.free D && freeS D r
def freeO (D : List Nat) : List (Nat × AO) → Bool
  | [] => true
  | (_, x) :: r => x.free D && freeO D r
theorem keys_mem {α : Type} {l : List (Nat × α)} {p : Nat × α} (h : p ∈ l) : p.1 ∈ keys l := by
  induction l with
  | nil => simp at h
  | cons q l ih =>
    rcases List.mem_cons.1 h with rfl | h
    · simp [keys]
    · simp [keys, ih h]
theorem mem_keys {α : Type} {l : List (Nat × α)} {k : Nat} (h : k ∈ keys l) : ∃ p ∈ l, p.1 = k := by
  induction l with
  | nil => simp [keys] at h
  | cons q l ih =>
    simp only [keys, List.mem_cons] at h
    rcases h with rfl | h
    · exact ⟨q, by simp, rfl⟩
    · obtain ⟨p, h1, h2⟩ := ih h
      exact ⟨p, by simp [h1], h2⟩
section
variable {P : Program} {w0 : World} {N : Nat}
theorem Sub.auto {σ σ' : AS} (hfr : FrOk σ.fr) (hs : σ'.fr = σ.fr) (hb : ((dropK (keys σ.hp) (keys σ'.hp)).all (fun d => decide (d < 1000000)) && freeS (dropK (keys σ.hp) (keys σ'.hp)) σ'.sl && freeO (dropK (keys σ.hp) (keys σ'.hp)) σ'.hp) = true) (h : subE σ.sl σ'.sl) (ho : subE σ.hp σ'.hp) : Sub w0 N σ σ' := by
  simp only [Bool.and_eq_true] at hb
  obtain ⟨⟨h1, h2⟩, h3⟩ := hb
  refine Sub.lit (dropK (keys σ.hp) (keys σ'.hp)) hfr hs h1 ?_ ?_ ?_
  · clear ho h3
    generalize dropK (keys σ.hp) (keys σ'.hp) = D at h2
    revert h h2
    generalize σ'.sl = l
    intro h h2
    induction l with
    | nil => trivial
    | cons q l ih =>
      simp only [freeS, Bool.and_eq_true] at h2
      exact ⟨h.1, h2.1, ih h.2 h2.2⟩
  · have hk : ∀ k ∈ keys σ'.hp, (dropK (keys σ.hp) (keys σ'.hp)).contains k = false := by
      intro k hk
      simp only [dropK, List.contains_eq_mem, List.mem_filter, Bool.not_eq_true', decide_eq_false_iff_not, not_and, Classical.not_not, decide_eq_true_eq]
      exact fun _ => hk
    generalize dropK (keys σ.hp) (keys σ'.hp) = D at h3 hk
    revert ho h3 hk
    generalize σ'.hp = l
    intro ho h3 hk
    induction l with
    | nil => trivial
    | cons q l ih =>
      simp only [freeO, Bool.and_eq_true] at h3
      exact ⟨ho.1, h3.1, hk q.1 (by simp [keys]), ih ho.2 h3.2 fun k hk' => hk k (by simp [keys, hk'])⟩
  · rw [List.all_eq_true]
    intro p hp
    by_cases hm : p.1 ∈ keys σ'.hp
    · obtain ⟨q, h4, h5⟩ := mem_keys hm
      simp only [Bool.or_eq_true, List.any_eq_true, beq_iff_eq]
      exact .inr ⟨q, h4, h5⟩
    · simp only [Bool.or_eq_true]
      left
      simp only [dropK, List.contains_eq_mem, List.mem_filter, Bool.not_eq_true', decide_eq_false_iff_not, decide_eq_true_eq]
      exact ⟨keys_mem hp, hm⟩
def firstR : Code → Nat
  | .region i _ _ => i
  | .seq x _ => firstR x
  | .block _ x => firstR x
  | .loop x => firstR x
  | _ => 1000000
theorem AWp.loopAt {c : Code} {σ : AS} {AQ : Exit → AS → Prop} (n : Nat) (_ : firstR c = n) (h : AWp P w0 N (.loop c) σ AQ) : AWp P w0 N (.loop c) σ AQ := h
theorem AWp.loopO {c : Code} {σ : AS} {AQ : Exit → AS → Prop} {ι : Type} (Wr : List Nat) (ov : ι → List (Nat × AV)) (oo : ι → List (Nat × AO)) (I : ι → Prop) (μ : ι → Nat) (i0 : ι) (h0 : I i0) (hs : Sub w0 N σ (σ.over2 Wr (ov i0) (oo i0))) (h : ∀ i, I i → ∀ L : AS → Prop, (∀ j σ', I j → μ j < μ i → Sub w0 N σ' (σ.over2 Wr (ov j) (oo j)) → L σ') → AWp P w0 N c (σ.over2 Wr (ov i) (oo i)) (seqQ L AQ)) : AWp P w0 N (.loop c) σ AQ :=
  AWp.loopK (fun i => σ.over2 Wr (ov i) (oo i)) I μ i0 h0 hs h
end
theorem and_id {a b : Prop} (h : a ∧ b) : a ∧ b := h
def dmy : Bool := true
theorem dmy_eq : dmy = true := rfl
section
variable {P : Program} {Θ : TypeId → Option TI} {Γ : List (FuncId × Con)} {w0 : World} {N : Nat}
theorem runF_id {gd : Nat → Option Tmp} {nx : Nat} {l : List Oper} {i : Nat} {σ : AS} {rs : List (List Nat × List Nat)} {K : AS → List (List Nat × List Nat) → Prop} (h : runF Θ Γ gd nx l i σ rs K) : runF Θ Γ gd nx l i σ rs K := h
theorem stepF_id {ds : List (Nat × Bool)} {gd : Nat → Option Tmp} {nx i : Nat} {o : Oper} {σ : AS} {k : AS → List Nat × List Nat → Prop} (h : stepF Θ Γ ds gd nx i o σ k) : stepF Θ Γ ds gd nx i o σ k := h
def endsO (σ : AS) (m : Nat → Nat) : Nat → List AO → Prop
  | _, [] => True
  | i, ob :: r => σ.obj (m i) = ob.ren m ∧ endsO σ m (i + 1) r
theorem endsO_get {σ : AS} {m : Nat → Nat} : ∀ {obs : List AO} {i : Nat}, endsO σ m i obs → ∀ (j : Nat) ob, obs[j]? = some ob → σ.obj (m (i + j)) = ob.ren m
  | [], _, _, j, ob, h => by simp at h
  | x :: r, i, hs, j, ob, h => by
    cases j with
    | zero => simp at h; subst h; exact hs.1
    | succ j => rw [show i + (j + 1) = i + 1 + j by omega]; exact endsO_get hs.2 j ob (by simpa using h)
theorem EndsAt.done {rs : List ResultVar} {x : AV} {obs : List AO} {e : Exit} {σ : AS} (l : List Nat) (he : e = .normal ∨ e = .ret) (hl : l.length = obs.length) (hres : resAV Θ σ rs = some (ren3 (fun k => l.getD k 0) x)) (hnd : l.Nodup) (hob : endsO σ (fun k => l.getD k 0) 0 obs) : EndsAt Θ rs x obs e σ :=
  ⟨he, l, hl, hnd, hres, fun i ob h => by have := endsO_get hob i ob h; rwa [Nat.zero_add] at this⟩
theorem loop_id {c : Code} {σ : AS} {AQ : Exit → AS → Prop} (h : AWp P w0 N (.loop c) σ AQ) : AWp P w0 N (.loop c) σ AQ := h
theorem AWp.ret_id {σ : AS} {AQ : Exit → AS → Prop} (h : AWp P w0 N .ret σ AQ) : AWp P w0 N .ret σ AQ := h
theorem EndsAt_id {rs : List ResultVar} {x : AV} {obs : List AO} {e : Exit} {σ : AS} (h : EndsAt Θ rs x obs e σ) : EndsAt Θ rs x obs e σ := h
end
end Go.Proofs.Ytgnnmifpfgpllaa
