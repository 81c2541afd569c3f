import Derived.Test.YtgnnmifpfgpllaaZB1
/- Contracts whose results hold no memory. -/
set_option linter.all false
set_option linter.unusedVariables false
set_option linter.unusedSimpArgs false
namespace Go.Proofs.Ytgnnmifpfgpllaa
open Go.RowKit
def asG : AV → Option (Int × Int × Int)
  | .agg [.lit (.int .i64 p), .lit (.int .i64 q), .lit (.int .i64 g)] => some (p, q, g)
  | _ => none
def asI : AV → Option Int
  | .lit (.int .i64 n) => some n
  | _ => none
def asBo : AV → Option Bool
  | .lit (.bool b) => some b
  | _ => none
def asStr : AV → Option ByteArray
  | .lit (.string s) => some s
  | _ => none
def asIs : AV → Option (List Int)
  | .sl .int xs => some xs
  | .lit (.slice none 0 0) => some []
  | _ => none
def asBs : AV → Option (Int × List Int)
  | .agg [h, bs] => match asI h, asIs bs with
    | some h, some bs => some (h, bs)
    | _, _ => none
  | _ => none
def asE4 : AV → Option (Int × Int × Int × Int)
  | .agg [.lit (.int .i64 a), .lit (.int .i64 b), .lit (.int .i64 c), .lit (.int .i64 d)] => some (a, b, c, d)
  | _ => none
def asI2 : AV → Option (Int × Int)
  | .agg [.lit (.int .i64 a), .lit (.int .i64 b)] => some (a, b)
  | _ => none
def asI3 : AV → Option (Int × Int × Int)
  | .agg [.lit (.int .i64 a), .lit (.int .i64 b), .lit (.int .i64 c)] => some (a, b, c)
  | _ => none
def asLL : AV → Option (List Int × List Int)
  | .agg [a, b] => match asIs a, asIs b with
    | some a, some b => some (a, b)
    | _, _ => none
  | _ => none
def asLLL : AV → Option (List Int × List Int × List Int)
  | .agg [a, b, c] => match asIs a, asIs b, asIs c with
    | some a, some b, some c => some (a, b, c)
    | _, _, _ => none
  | _ => none
section
variable {w : World} {x : AV} {u : Value}
/-- a slice of ints, as a callee reads it -/
def isSl (w : World) (xs : List Int) (u : Value) : Prop := ∃ A c, u = .slice A xs.length c ∧ RI w w.heap.size A xs ∧ xs.length ≤ 9223372036854775807 ∧ xs.length ≤ c
theorem asIs_sound {xs : List Int} (h : asIs x = some xs) (hr : Rep (cx0 w) x u) : isSl w xs u := by
  unfold asIs at h
  split at h
  · rename_i ys
    cases h
    obtain ⟨A, c, h1, h2⟩ := flat_reads (I := fun b => b < w.heap.size) (W := w) (fun b hb => hb) (t := .int) rfl (by decide) hr.sl_of
    obtain ⟨A', c', e, g1, g2, _⟩ := hr.sl_of
    simp only [List.cons.injEq, and_true] at e
    rw [h1] at e
    injection e with e1 e2 e3
    subst e3
    refine ⟨A, c, h1, ?_, g2, g1⟩
    have : ∀ l : List Int, (l.map (Ty.vals .int)).flatten = l.map (Value.int .i64) := by
      intro l
      induction l with
      | nil => rfl
      | cons x l ih => simp only [List.map_cons, List.flatten_cons, ih]; rfl
    unfold RI
    rw [← this]; exact h2
  · cases h
    exact ⟨none, 0, hr.lit_eq, Reads.none_, by simp, by simp⟩
  · cases h
theorem asG_sound {p q g : Int} (h : asG x = some (p, q, g)) (hr : Rep (cx0 w) x u) : u = .agg #[.int .i64 p, .int .i64 q, .int .i64 g] := by
  unfold asG at h
  split at h
  · cases h
    obtain ⟨us, rfl, h1⟩ := hr.agg_of
    obtain ⟨a, us, rfl, h2, h1⟩ := h1.cons_of
    obtain ⟨b, us, rfl, h3, h1⟩ := h1.cons_of
    obtain ⟨c, us, rfl, h4, h1⟩ := h1.cons_of
    rw [h1.nil_of, h2.lit_eq, h3.lit_eq, h4.lit_eq]
  · cases h
theorem asI_sound {n : Int} (h : asI x = some n) (hr : Rep (cx0 w) x u) : u = .int .i64 n := by
  unfold asI at h
  split at h
  · cases h; exact hr.lit_eq
  · cases h
end
theorem Rep.tup' {C : Cx} {cs : List AV} {us : List Value} (h : Reps C cs us) : Rep C (.tup cs) (.tuple us.toArray) := .tup h.1 h.2
theorem Rep.agg' {C : Cx} {cs : List AV} {us : List Value} (h : Reps C cs us) : Rep C (.agg cs) (.agg us.toArray) := .agg h.1 h.2
/-- a value without memory -/
def litOf : AV → Option Value
  | .lit v => some v
  | .tup [.lit a, .lit b] => some (.tuple #[a, b])
  | .tup [.lit a, .lit b, .lit c] => some (.tuple #[a, b, c])
  | .agg [.lit a, .lit b] => some (.agg #[a, b])
  | .agg [.lit a, .lit b, .lit c] => some (.agg #[a, b, c])
  | _ => none
theorem litOf_sound {C : Cx} {x : AV} {v : Value} (h : litOf x = some v) : Rep C x v ∧ ok3 0 x = true ∧ ren3 (fun k => k) x = x ∧ ∀ m, ren3 m x = x := by
  unfold litOf at h
  split at h <;> (try cases h) <;> refine ⟨?_, rfl, rfl, fun _ => rfl⟩
  · exact .lit _
  · exact Rep.tup' (Reps.cons (.lit _) (.cons (.lit _) .nil))
  · exact Rep.tup' (Reps.cons (.lit _) (.cons (.lit _) (.cons (.lit _) .nil)))
  · exact Rep.agg' (Reps.cons (.lit _) (.cons (.lit _) .nil))
  · exact Rep.agg' (Reps.cons (.lit _) (.cons (.lit _) (.cons (.lit _) .nil)))
theorem enter_of {P : Program} {f : FuncId} {fn : Func} (hf : P.funcs[f]? = some fn) (hn : (fn.name == "runtime.NumGoroutine") = false) (hb : fn.body.isNone = false) : ∀ args w, (callFunc f args).run P w = .ok (.enter f args) w := by
  intro args w
  simp only [callFunc, Sem.run_bind, run_program, Result.andThen_ok, hf, hn, hb]
  rfl
theorem Con0.okLit {P : Program} {f : FuncId} {C : Con0} (hent : ∀ args w, (callFunc f args).run P w = .ok (.enter f args) w)
    (h : ∀ args c x obs, C args = some (c, x, obs) → obs = [] ∧ ∃ v, litOf x = some v ∧ (c → ∀ w vs, Reps (cx0 w) args vs → Calls P f vs.toArray w fun en w' => en = .returned v ∧ Below w.heap.size w w')) : (mk C).ok P f := DCon.lift_ok <| by
  have hmk : ∀ nid args c x objs, mkD C nid args = some (c, x, objs) → C args = some (c, x, []) ∧ objs = [] ∧ ∃ v, litOf x = some v ∧ (c → ∀ w vs, Reps (cx0 w) args vs → Calls P f vs.toArray w fun en w' => en = .returned v ∧ Below w.heap.size w w') := by
    intro nid args c x objs hm
    simp only [mkD, Option.map_eq_some_iff] at hm
    obtain ⟨⟨c', x0, obs⟩, h1, h2⟩ := hm
    obtain ⟨rfl, v, hv, hcall⟩ := h _ _ _ _ h1
    cases h2
    obtain ⟨_, _, _, h5⟩ := litOf_sound (C := ⟨default, fun _ => True, fun _ => undef, fun _ => none⟩) hv
    rw [h5]
    exact ⟨h1, rfl, v, hv, hcall⟩
  refine ⟨hent, fun nid args c x objs hm => ?_, fun nid args c x objs hm hc w vs hv => ?_⟩
  · obtain ⟨_, rfl, v, hv, _⟩ := hmk _ _ _ _ _ hm
    obtain ⟨_, h2, _, h4⟩ := litOf_sound (C := ⟨default, fun _ => True, fun _ => undef, fun _ => none⟩) hv
    refine ⟨by have := ok3_res (m := fun k => k) h2; rwa [h4] at this, fun p hp => by cases hp⟩
  · obtain ⟨_, rfl, v, hlv, hcall⟩ := hmk _ _ _ _ _ hm
    refine (hcall hc w vs hv).mono ?_
    rintro en w' ⟨rfl, hb⟩
    exact ⟨v, fun _ => undef, fun _ => [], rfl, ⟨hb, fun o => trivial, fun o b ho => absurd rfl ho, fun o o' b ho => absurd rfl ho, fun o ho => absurd rfl ho, fun t x h => (by cases h), rfl⟩, (litOf_sound hlv).1⟩
theorem Calls.keep {P : Program} {f : FuncId} {args : Array Value} {w : World} {v : Value} (h : Calls P f args w fun en w' => en = .returned v ∧ w = w') : Calls P f args w fun en w' => en = .returned v ∧ Below w.heap.size w w' := h.mono fun _ _ ⟨e, hw⟩ => ⟨e, hw ▸ Below.refl _ _⟩
end Go.Proofs.Ytgnnmifpfgpllaa
