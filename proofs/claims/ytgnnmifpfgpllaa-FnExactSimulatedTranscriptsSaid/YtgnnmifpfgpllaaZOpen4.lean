import Derived.Test.YtgnnmifpfgpllaaZOpen
import Derived.Test.YtgnnmifpfgpllaaZAJ
import Derived.Deep.Slices
import Derived.ChangeArms
/- Arguments of any type opened to abstract values; from a law's contract to its call. -/
set_option linter.all false
set_option linter.unusedVariables false
set_option linter.unusedSimpArgs false
namespace Go.Proofs.Ytgnnmifpfgpllaa
open Go.ChangeShapes Go.WideShapes Go.ChangeAt Go.RowKit Go.Joins
/-- what a law's contract says of a call from outside -/
theorem Con.law {P : Program} {f : FuncId} {C : Con} (h : C.ok P f) {args : List AV} {v : Value} {c : Prop} {eff : List (Nat × AO)} {tch : List Nat} {w : World} (hrun : C.run 0 noObj args = some (c, .lit v, eff, tch)) (hc : c) {vs : List Value} (hr : Reps (cx0 w) args vs) : Calls P f vs.toArray w fun e w' => e = .returned v ∧ Below w.heap.size w w' := by
  have hR : RelW w (fun _ => none) noObj ⟨#[], []⟩ w (fun _ => .bool false) (fun _ => []) := ⟨Below.refl _ _, fun o => trivial, fun o b ho => absurd rfl ho, fun o o' b ho => absurd rfl ho, fun o ho => absurd rfl ho, fun t x hx => (by cases hx), rfl⟩
  have hle : Cx.Le (cx0 w) (cxOf noObj w (fun _ => .bool false) (fun _ => [])) := ⟨fun b hb => ⟨hb, fun o ho => absurd rfl ho⟩, fun p _ => rfl, fun o n h => (by cases h), fun o n h => (by cases h)⟩
  refine (h.calls w _ noObj _ w _ _ hR 0 args c _ eff tch hrun hc vs (hr.le hle)).mono ?_
  rintro e w' ⟨u, ρ', β', rfl, hu, hr'⟩
  rw [hu.lit_eq]
  exact ⟨rfl, hr'.below⟩
/-- a type of the program and a type of data -/
def opens (P : Program) : Ty → (TypeId ⊕ (Nat × List Field)) → Prop
  | .int, .inl t => P.underlying t = some (.int .i64)
  | .bool, .inl t => P.underlying t = some .bool
  | .str, .inl t => P.underlying t = some .string
  | .list y, .inl t => ∃ e, P.underlying t = some (.slice e) ∧ P.cellsOf e = y.sz ∧ 0 < y.sz ∧ opens P y (.inl e)
  | .pair a b, .inl t => ∃ fs f rest, P.underlying t = some (.struct fs) ∧ fs.toList = f :: rest ∧ P.cellsOf t = (Ty.pair a b).sz ∧ f.offset = 0 ∧ P.cellsOf f.type = a.sz ∧ opens P a (.inl f.type) ∧
      ((∃ f2, rest = [f2] ∧ f2.offset = a.sz ∧ P.cellsOf f2.type = b.sz ∧ opens P b (.inl f2.type)) ∨ opens P b (.inr (a.sz, rest)))
  | .pair a b, .inr (off, fs) => ∃ f rest, fs = f :: rest ∧ f.offset = off ∧ P.cellsOf f.type = a.sz ∧ opens P a (.inl f.type) ∧
      ((∃ f2, rest = [f2] ∧ f2.offset = off + a.sz ∧ P.cellsOf f2.type = b.sz ∧ opens P b (.inl f2.type)) ∨ opens P b (.inr (off + a.sz, rest)))
  | _, .inr _ => False
section
variable {P : Program} {H : Type} {enc : TypeId × Value → H} {W : World} {base : Nat} {sp : Nat → Bool} {held : Bool}
theorem trod_rep : ∀ (y : Ty), (∀ t, opens P y (.inl t) → ∀ fuel cs (x : DataW H × List MemPlace), DataW.trod enc P W base sp held fuel t cs = some x → (∀ q ∈ x.2, q.block < W.heap.size) → ∃ d : y.den, y.rep W (fun b => b < W.heap.size) d cs) ∧
    (∀ off fs, opens P y (.inr (off, fs)) → ∀ (n : Nat) (cs : List Value) (xs : List (DataW H × List MemPlace)), (∀ (i : Nat) (f : Field), fs[i]? = some f → DataW.trod enc P W base sp held n f.type ((cs.drop f.offset).take (P.cellsOf f.type)) = xs[i]?) → xs.length = fs.length → (∀ x ∈ xs, ∀ q ∈ x.2, q.block < W.heap.size) → ∃ d : y.den, y.rep W (fun b => b < W.heap.size) d ((cs.drop off).take y.sz))
  | .int => ⟨fun t ht fuel cs x h hq => by
      obtain ⟨n, rfl, _, _⟩ := DataW.trod_int ht h
      exact ⟨n, rfl⟩, fun off fs h => h.elim⟩
  | .bool => ⟨fun t ht fuel cs x h hq => by
      obtain ⟨n, rfl, _⟩ := DataW.trod_bool ht h
      exact ⟨n, rfl⟩, fun off fs h => h.elim⟩
  | .str => ⟨fun t ht fuel cs x h hq => by
      obtain ⟨n, rfl, _⟩ := DataW.trod_string ht h
      exact ⟨n, rfl⟩, fun off fs h => h.elim⟩
  | .list y => ⟨fun t ⟨e, ht, hC, hy0, hy⟩ fuel cs x h hq => by
      rcases Go.Deep.open_slice ht h with ⟨rfl, _⟩ | ⟨a, len, cap, m, n, D, Pl, rfl, hb, hl, hm, hmm, rfl, hi⟩
      · exact ⟨[], none, 0, rfl, Nat.le_refl _, by simp, fun h => by simp at h⟩
      · have hlm : len ≤ m := by rw [hmm]; split <;> omega
        have hex : ∀ i, i < len → ∃ (d : y.den) (cs' : List Value), W.cells? base (a.add (i * y.sz)) y.sz = some cs' ∧ y.rep W (fun b => b < W.heap.size) d cs' := by
          intro i hil
          obtain ⟨cs', h1, h2⟩ := hi i (by omega)
          rw [hC] at h1
          obtain ⟨d, hd⟩ := (trod_rep y).1 e hy n cs' _ h2 (fun q hq' => hq q (by
            simp only [List.mem_append, List.mem_flatMap, List.mem_range]
            exact .inr ⟨i, by omega, hq'⟩))
          exact ⟨d, cs', h1, hd⟩
        let f : Nat → y.den := fun i => if h : i < len then (hex i h).choose else y.dflt
        refine ⟨(List.range len).map f, some a, cap, by simp, by simpa using hl, by simp; unfold maxLen at hm; omega, fun h0 => ⟨a, rfl, ?_, fun k z hz => ?_⟩⟩
        · have hlen : 0 < len := by simpa using h0
          have hpos : 0 < m * P.cellsOf e := by rw [hC]; exact Nat.mul_pos (by omega) hy0
          obtain ⟨q, hq1, hq2⟩ := mem_row (a := a) hpos
          rw [← hq2]
          exact hq q (by simp only [List.mem_append]; exact .inl hq1)
        · rw [List.getElem?_map] at hz
          have hk : k < len := by
            rcases Nat.lt_or_ge k len with h | h
            · exact h
            · rw [List.getElem?_eq_none (by simpa using h)] at hz; simp at hz
          rw [List.getElem?_range hk] at hz
          simp only [Option.map_some, Option.some.injEq, f, dif_pos hk] at hz
          obtain ⟨cs', h1, h2⟩ := (hex k hk).choose_spec
          rw [hz] at h2
          obtain ⟨_, hcl, hat⟩ := World.cells?_some h1
          refine ⟨cs', h2, fun j u hj => ?_⟩
          have hjl : j < y.sz := by
            have := (List.getElem?_eq_some_iff.1 hj).1
            omega
          have := hat j hjl
          rw [add_of_add] at this
          rw [this, hj], fun off fs h => h.elim⟩
  | .pair a b => by
    have tail : ∀ (off : Nat) (rest : List Field), ((∃ f2, rest = [f2] ∧ f2.offset = off ∧ P.cellsOf f2.type = b.sz ∧ opens P b (.inl f2.type)) ∨ opens P b (.inr (off, rest))) → ∀ (n : Nat) (cs : List Value) (xs : List (DataW H × List MemPlace)), (∀ (i : Nat) (f : Field), rest[i]? = some f → DataW.trod enc P W base sp held n f.type ((cs.drop f.offset).take (P.cellsOf f.type)) = xs[i]?) → xs.length = rest.length → (∀ x ∈ xs, ∀ q ∈ x.2, q.block < W.heap.size) → ∃ d : b.den, b.rep W (fun b => b < W.heap.size) d ((cs.drop off).take b.sz) := by
      intro off rest h n cs xs hx hl hq
      rcases h with ⟨f2, rfl, ho, hC, hop⟩ | h
      · match xs, hl with
        | [x2], _ =>
          have h2 := hx 0 f2 rfl
          rw [ho, hC] at h2
          exact (trod_rep b).1 f2.type hop n _ x2 (by simpa using h2) (hq x2 (by simp))
      · exact (trod_rep b).2 off rest h n cs xs hx hl hq
    have both : ∀ (off : Nat) (f : Field) (rest : List Field), f.offset = off → P.cellsOf f.type = a.sz → opens P a (.inl f.type) → ((∃ f2, rest = [f2] ∧ f2.offset = off + a.sz ∧ P.cellsOf f2.type = b.sz ∧ opens P b (.inl f2.type)) ∨ opens P b (.inr (off + a.sz, rest))) → ∀ (n : Nat) (cs : List Value) (xs : List (DataW H × List MemPlace)), (∀ (i : Nat) (g : Field), (f :: rest)[i]? = some g → DataW.trod enc P W base sp held n g.type ((cs.drop g.offset).take (P.cellsOf g.type)) = xs[i]?) → xs.length = (f :: rest).length → (∀ x ∈ xs, ∀ q ∈ x.2, q.block < W.heap.size) → ∃ d : (Ty.pair a b).den, (Ty.pair a b).rep W (fun b => b < W.heap.size) d ((cs.drop off).take (Ty.pair a b).sz) := by
      intro off f rest ho hC hop ht n cs xs hx hl hq
      match xs, hl with
      | x1 :: xs, hl =>
        have h1 := hx 0 f rfl
        rw [ho, hC] at h1
        obtain ⟨d1, hd1⟩ := (trod_rep a).1 f.type hop n _ x1 (by simpa using h1) (hq x1 (by simp))
        obtain ⟨d2, hd2⟩ := tail (off + a.sz) rest ht n cs xs (fun i g hg => by simpa using hx (i + 1) g (by simpa using hg)) (by simpa using hl) (fun x hx' => hq x (by simp [hx']))
        refine ⟨(d1, d2), (cs.drop off).take a.sz, (cs.drop (off + a.sz)).take b.sz, ?_, hd1, hd2⟩
        show (cs.drop off).take (a.sz + b.sz) = _
        rw [List.take_add, List.drop_drop]
    refine ⟨fun t ⟨fs, f, rest, hu, hfs, hC, ho, hCf, hop, ht⟩ fuel cs x h hq => ?_, fun off fs ⟨f, rest, hfs, ho, hCf, hop, ht⟩ n cs xs hx hl hq => ?_⟩
    · obtain ⟨xs, n, _, rfl, hcl, hxl, hf⟩ := DataW.trod_struct hu h
      have hsz : fs.size = (f :: rest).length := by rw [← hfs]; simp
      obtain ⟨d, hd⟩ := both 0 f rest ho hCf hop (by simpa using ht) n cs xs (fun i g hg => hf i g (by rw [← hfs] at hg; simpa using hg)) (by omega) (fun x hx q hq' => hq q (List.mem_flatMap.2 ⟨x, hx, hq'⟩))
      refine ⟨d, ?_⟩
      rw [List.drop_zero, List.take_of_length_le (by rw [hcl, hC]; exact Nat.le_refl _)] at hd
      exact hd
    · subst hfs
      exact both off f rest ho hCf hop ht n cs xs hx hl hq
theorem arg_open {y : Ty} {t : TypeId} (hop : opens P y (.inl t)) {r : Reach} {b0 : Nat} {v : Value} {d : DataW H} {p : List MemPlace} (hv : Value.okWide P W r b0 t v) (h : DataW.Trod enc P W base sp held t v d p) (hlt : ∀ q ∈ p, q.block < W.heap.size) : ∃ d : y.den, Rep (cx0 W) (canon y d) v := by
  obtain ⟨fuel, hf⟩ := h
  obtain ⟨d', hd⟩ := (trod_rep y).1 t hop fuel _ _ hf hlt
  have hreps := Ty.cells_rep (C := cx0 W) y d' _ hd
  refine ⟨d', ?_⟩
  cases y with
  | pair a b =>
    obtain ⟨fs, f, rest, hu, _⟩ := hop
    obtain ⟨cs, rfl, _⟩ := okWide_struct hu hv
    have e : (Value.agg cs).cells = cs := rfl
    rw [e] at hreps
    have : Rep (cx0 W) (.agg ((Ty.pair a b).cells d')) (.agg cs.toList.toArray) := .agg hreps.1 hreps.2
    simpa [canon] using this
  | int =>
    obtain ⟨n, rfl, rfl, rfl, _⟩ := open_int hop hv ⟨fuel, hf⟩
    have e : (Value.int .i64 n).cells = #[.int .i64 n] := rfl
    rw [e] at hd
    simp only [Ty.rep, List.cons.injEq, Value.int.injEq, true_and, and_true] at hd
    subst hd
    exact .lit _
  | bool =>
    obtain ⟨n, hn, _⟩ := DataW.trod_bool hop hf
    obtain ⟨b, rfl⟩ := okWide_bool hop hv
    have e : (Value.bool b).cells = #[.bool b] := rfl
    rw [e] at hd
    simp only [Ty.rep, List.cons.injEq, Value.bool.injEq, and_true] at hd
    subst hd
    exact .lit _
  | str =>
    obtain ⟨n, hn, _⟩ := DataW.trod_string hop hf
    obtain ⟨b, rfl⟩ := okWide_string hop hv
    have e : (Value.string b).cells = #[.string b] := rfl
    rw [e] at hd
    simp only [Ty.rep, List.cons.injEq, Value.string.injEq, and_true] at hd
    subst hd
    exact .lit _
  | list y =>
    obtain ⟨e0, hu, _⟩ := hop
    obtain ⟨a0, len, cap, rfl⟩ := okWide_slice hu hv
    exact .sl hd
end
theorem rep_len {C : Cx} {y : Ty} {xs : List y.den} {v : Value} (h : Rep C (canon (.list y) xs) v) : xs.length ≤ 9223372036854775807 := by
  have h' : Rep C (.sl y xs) v := h
  cases h' with
  | sl h => obtain ⟨_, _, _, _, hl, _⟩ := h; exact hl
end Go.Proofs.Ytgnnmifpfgpllaa
