/- Abstract walks: contracts over typed data. -/
import Derived.Test.YtljlimlgdnbllaaAF
set_option linter.all false
set_option linter.unusedVariables false
set_option linter.unusedSimpArgs false
namespace Go.Proofs.Ytljlimlgdnbllaa
open Go.RowKit
def asI1 : List AV → Option Int
  | [.lit (.int .i64 n)] => some n
  | _ => none
def asB1 : List AV → Option Bool
  | [.lit (.bool b)] => some b
  | _ => none
def asS1 : List AV → Option ByteArray
  | [.lit (.string s)] => some s
  | _ => none
def asL1 (t : Ty) : List AV → Option (List t.den)
  | [.sl t' xs] => if e : t' = t then some (e ▸ xs) else none
  | [.lit (.slice none 0 0)] => some []
  | _ => none
/-- cells read as a datum -/
def asTy : (t : Ty) → List AV → Option t.den
  | .int, cs => asI1 cs
  | .bool, cs => asB1 cs
  | .str, cs => asS1 cs
  | .pair a b, cs => match asTy a (cs.take a.sz), asTy b (cs.drop a.sz) with
    | some x, some y => some (x, y)
    | _, _ => none
  | .list t, cs => asL1 t cs
def asArg (t : Ty) (x : AV) : Option t.den := match x with
  | .agg cs => match t with
    | .pair a b => asTy (.pair a b) cs
    | _ => none
  | x => match t with
    | .pair _ _ => none
    | t => asTy t [x]
/-- a datum as an argument -/
def canon : (t : Ty) → t.den → AV
  | .int, n => .lit (.int .i64 n)
  | .bool, b => .lit (.bool b)
  | .str, s => .lit (.string s)
  | .list t, xs => .sl t xs
  | .pair a b, x => .agg (Ty.cells (.pair a b) x)
@[reducible] def HL : List Ty → Type
  | [] => Unit
  | t :: ts => t.den × HL ts
def asArgs : (ts : List Ty) → List AV → Option (HL ts)
  | [], [] => some ()
  | t :: ts, x :: xs => match asArg t x, asArgs ts xs with
    | some d, some ds => some (d, ds)
    | _, _ => none
  | _, _ => none
def canons : (ts : List Ty) → HL ts → List AV
  | [], _ => []
  | t :: ts, d => canon t d.1 :: canons ts d.2
theorem asTy_sound {w : World} : ∀ (t : Ty) (cs : List AV) (d : t.den) (us : List Value), asTy t cs = some d → Reps (cx0 w) cs us → Reps (cx0 w) (t.cells d) us
  | .int, cs, d, us, h, hr => by
    simp only [asTy] at h
    unfold asI1 at h
    split at h
    · cases h; exact hr
    · cases h
  | .bool, cs, d, us, h, hr => by
    simp only [asTy] at h
    unfold asB1 at h
    split at h
    · cases h; exact hr
    · cases h
  | .str, cs, d, us, h, hr => by
    simp only [asTy] at h
    unfold asS1 at h
    split at h
    · cases h; exact hr
    · cases h
  | .pair a b, cs, d, us, h, hr => by
    simp only [asTy] at h
    split at h
    · rename_i x y e1 e2
      cases h
      have h1 := asTy_sound a _ _ _ e1 (hr.take a.sz)
      have h2 := asTy_sound b _ _ _ e2 (hr.drop a.sz)
      have := h1.append h2
      rwa [List.take_append_drop] at this
    · cases h
  | .list t, cs, d, us, h, hr => by
    simp only [asTy] at h
    unfold asL1 at h
    split at h
    · rename_i t' xs
      split at h
      · rename_i e
        subst e
        cases h
        exact hr
      · cases h
    · cases h
      obtain ⟨u, us, rfl, h1, h2⟩ := hr.cons_of
      rw [h2.nil_of, h1.lit_eq]
      exact .cons (.sl ⟨none, 0, rfl, by simp, by simp, fun h => by simp at h⟩) .nil
    · cases h
theorem canon_one {w : World} {t : Ty} (hp : ∀ a b, t ≠ .pair a b) {d : t.den} {u : Value} (h : Reps (cx0 w) (t.cells d) [u]) : Rep (cx0 w) (canon t d) u := by
  cases t with
  | pair a b => exact absurd rfl (hp a b)
  | _ => exact h.out.1
theorem asArg_sound {w : World} {t : Ty} {x : AV} {d : t.den} {u : Value} (h : asArg t x = some d) (hr : Rep (cx0 w) x u) : Rep (cx0 w) (canon t d) u := by
  cases t with
  | pair a b =>
    cases x with
    | agg cs =>
      obtain ⟨us, rfl, h1⟩ := hr.agg_of
      have := asTy_sound (.pair a b) cs d us h h1
      exact .agg this.1 this.2
    | _ => simp [asArg] at h
  | int => cases x with
    | agg cs => simp [asArg] at h
    | _ => exact canon_one (fun a b e => by cases e) (asTy_sound .int [_] d [u] h (.cons hr .nil))
  | bool => cases x with
    | agg cs => simp [asArg] at h
    | _ => exact canon_one (fun a b e => by cases e) (asTy_sound .bool [_] d [u] h (.cons hr .nil))
  | str => cases x with
    | agg cs => simp [asArg] at h
    | _ => exact canon_one (fun a b e => by cases e) (asTy_sound .str [_] d [u] h (.cons hr .nil))
  | list t => cases x with
    | agg cs => simp [asArg] at h
    | _ => exact canon_one (fun a b e => by cases e) (asTy_sound (.list t) [_] d [u] h (.cons hr .nil))
theorem asArgs_sound {w : World} : ∀ (ts : List Ty) (xs : List AV) (d : HL ts) (us : List Value), asArgs ts xs = some d → Reps (cx0 w) xs us → Reps (cx0 w) (canons ts d) us
  | [], [], _, us, _, hr => hr
  | [], _ :: _, _, _, h, _ => by simp [asArgs] at h
  | _ :: _, [], _, _, h, _ => by simp [asArgs] at h
  | t :: ts, x :: xs, d, us, h, hr => by
    unfold asArgs at h
    split at h
    · rename_i d1 ds e1 e2
      cases h
      obtain ⟨u, us, rfl, h1, h2⟩ := hr.cons_of
      exact .cons (asArg_sound e1 h1) (asArgs_sound ts xs ds us e2 h2)
    · cases h
theorem asArgs_len : ∀ (ts : List Ty) (xs : List AV) (d : HL ts), asArgs ts xs = some d → xs.length = (canons ts d).length
  | [], [], _, _ => rfl
  | [], _ :: _, _, h => by simp [asArgs] at h
  | _ :: _, [], _, h => by simp [asArgs] at h
  | t :: ts, x :: xs, d, h => by
    unfold asArgs at h
    split at h
    · rename_i d1 ds e1 e2
      cases h
      simp only [canons, List.length_cons, asArgs_len ts xs ds e2]
    · cases h
/-- a contract over typed data: its condition, its result, its new objects -/
def conF (ts : List Ty) (F : HL ts → Prop × AV × List AO) : Con0 := fun args => (asArgs ts args).map F
theorem okF {P : Program} {Θ : TypeId → Option TI} {f : FuncId} {fn : Func} {N : Nat} {rs : List ResultVar} (hΘ : ∀ t ti, Θ t = some ti → ti.ok P t) (hf : P.funcs[f]? = some fn) (hb : fn.body.isNone = false) (hN : fn.ntmps = N) (hrs : fn.results = rs.toArray) (hrl : rs.length ≤ 4) (hname : (fn.name == "runtime.NumGoroutine") = false) {ts : List Ty} {F : HL ts → Prop × AV × List AO}
    (h : ∀ d : HL ts, ok3 (F d).2.2.length (F d).2.1 = true ∧ (F d).2.2.all (AO.ok (F d).2.2.length) = true ∧ (canons ts d).length ≤ N ∧ ((F d).1 → ∀ w0, AWp P w0 N (fn.body.getD .skip) (initS (canons ts d)) (EndsAt Θ rs (F d).2.1 (F d).2.2))) : (mk (conF ts F)).ok P f :=
  Con0.okOf2 hΘ hf hb hN hrs hrl hname fun args c x obs he => by
    simp only [conF, Option.map_eq_some_iff] at he
    obtain ⟨d, h1, h2⟩ := he
    obtain ⟨g1, g2, g3, g4⟩ := h d
    rw [h2] at g1 g2 g4
    exact ⟨g1, g2, by rw [asArgs_len ts args d h1]; exact g3, canons ts d, (asArgs_len ts args d h1).symm, fun w vs hv => asArgs_sound ts args d vs h1 hv, g4⟩
/-- a condition with what follows of it -/
structure Ens (p q : Prop) : Prop where
  p : p
  q : q
class Post (p : Prop) (q : outParam Prop) : Prop where
  out : p → q
theorem ens_step {p q r : Prop} [i : Post p q] (hp : p) (h : q → r) : Ens p q ∧ r := ⟨⟨hp, i.out hp⟩, h (i.out hp)⟩
theorem and_id {a b : Prop} (h : a ∧ b) : a ∧ b := h
def dmy : Bool := true
theorem dmy_eq : dmy = true := rfl
section
variable {P : Program} {Θ : TypeId → Option TI} {Γ : List (FuncId × Con)} {w0 : World} {N : Nat}
theorem runF_id {gd : Nat → Option Tmp} {nx : Nat} {l : List Oper} {i : Nat} {σ : AS} {rs : List (List Nat × List Nat)} {K : AS → List (List Nat × List Nat) → Prop} (h : runF Θ Γ gd nx l i σ rs K) : runF Θ Γ gd nx l i σ rs K := h
theorem stepF_id {ds : List (Nat × Bool)} {gd : Nat → Option Tmp} {nx i : Nat} {o : Oper} {σ : AS} {k : AS → List Nat × List Nat → Prop} (h : stepF Θ Γ ds gd nx i o σ k) : stepF Θ Γ ds gd nx i o σ k := h
def endsO (σ : AS) (m : Nat → Nat) : Nat → List AO → Prop
  | _, [] => True
  | i, ob :: r => σ.obj (m i) = ob.ren m ∧ endsO σ m (i + 1) r
theorem endsO_get {σ : AS} {m : Nat → Nat} : ∀ {obs : List AO} {i : Nat}, endsO σ m i obs → ∀ (j : Nat) ob, obs[j]? = some ob → σ.obj (m (i + j)) = ob.ren m
  | [], _, _, j, ob, h => by simp at h
  | x :: r, i, hs, j, ob, h => by
    cases j with
    | zero => simp at h; subst h; exact hs.1
    | succ j => rw [show i + (j + 1) = i + 1 + j by omega]; exact endsO_get hs.2 j ob (by simpa using h)
theorem EndsAt.done {rs : List ResultVar} {x : AV} {obs : List AO} {e : Exit} {σ : AS} (l : List Nat) (he : e = .normal ∨ e = .ret) (hl : l.length = obs.length) (hres : resAV Θ σ rs = some (ren3 (fun k => l.getD k 0) x)) (hnd : l.Nodup) (hob : endsO σ (fun k => l.getD k 0) 0 obs) : EndsAt Θ rs x obs e σ :=
  ⟨he, l, hl, hnd, hres, fun i ob h => by have := endsO_get hob i ob h; rwa [Nat.zero_add] at this⟩
theorem AWp.ret_id {σ : AS} {AQ : Exit → AS → Prop} (h : AWp P w0 N .ret σ AQ) : AWp P w0 N .ret σ AQ := h
theorem EndsAt_id {rs : List ResultVar} {x : AV} {obs : List AO} {e : Exit} {σ : AS} (h : EndsAt Θ rs x obs e σ) : EndsAt Θ rs x obs e σ := h
end
end Go.Proofs.Ytljlimlgdnbllaa
