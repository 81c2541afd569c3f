import Derived.Test.YtgnnmifpfgpllaaZAB
import Derived.Lib.AppendZerosOnto
/- Deep rows: own slices that hold own slices; own slices cut; zeros appended. -/
set_option linter.all false
set_option linter.unusedVariables false
set_option linter.unusedSimpArgs false
namespace Go.Proofs.Ytgnnmifpfgpllaa
open Go.RowKit
def abInt : List AV → Option (Prop × Int × List (Nat × Nat))
  | [.lit (.int .i64 n)] => some (True, n, [])
  | _ => none
def abBool : List AV → Option (Prop × Bool × List (Nat × Nat))
  | [.lit (.bool n)] => some (True, n, [])
  | _ => none
def abStr : List AV → Option (Prop × ByteArray × List (Nat × Nat))
  | [.lit (.string n)] => some (True, n, [])
  | _ => none
def abList (h : Nat → AO) (t : Ty) : List AV → Option (Prop × List t.den × List (Nat × Nat))
  | [.own o n] => match h o with
    | .row _ t' ys => if e : t' = t then some (n = ys.length, e ▸ ys, [(o, n)]) else none
    | _ => none
  | [.lit (.slice none 0 0)] => some (True, [], [])
  | _ => none
/-- cells taken in as a datum: what it is, which objects it takes -/
def absorb (h : Nat → AO) : (t : Ty) → List AV → Option (Prop × t.den × List (Nat × Nat))
  | .int, cs => abInt cs
  | .bool, cs => abBool cs
  | .str, cs => abStr cs
  | .pair a b, cs => match absorb h a (cs.take a.sz), absorb h b (cs.drop a.sz) with
    | some (c, x, l), some (c', y, l') => some (c ∧ c', (x, y), l ++ l')
    | _, _ => none
  | .list t, cs => abList h t cs
def gones : List (Nat × Nat) → List (Nat × AO)
  | [] => []
  | (o, n) :: l => (o, .gone n) :: gones l
section
variable {P : Program} {Θ : TypeId → Option TI} {w0 : World} {get : Nat → Option AV} {obj : Nat → AO} {a : Act} {W : World} {ρ : Nat → Value} {β : Nat → List Nat}
theorem RelW.wholeRow (h : RelW w0 get obj a W ρ β) {o n : Nat} {e : TypeId} {t : Ty} {xs : List t.den} (hob : obj o = .row e t xs) (hn : n = xs.length) {u : Value} (hr : Rep (cxOf obj W ρ β) (.own o n) u) : u = ρ o ∧ ownL W w0.heap.size e t xs (ρ o) (β o) := by
  cases hr with
  | own h1 hn' hs h2 =>
    have h1 : (obj o).len = some _ := h1
    rw [hob] at h1
    simp only [AO.len, Option.some.injEq] at h1
    refine ⟨h2 (by omega), ?_⟩
    have := h.objs o
    rw [hob] at this; exact this
theorem absorb_sound (h : RelW w0 get obj a W ρ β) : ∀ (t : Ty) (cs : List AV) {c : Prop} {x : t.den} {l : List (Nat × Nat)} {us : List Value}, absorb obj t cs = some (c, x, l) → c → Reps (cxOf obj W ρ β) cs us →
    t.own W w0.heap.size x us (l.flatMap fun p => β p.1) ∧ ∀ p ∈ l, (obj p.1).len = some p.2 ∧ ∃ e t' ys, obj p.1 = .row e t' ys
  | .int, cs, c, x, l, us, hs, hc, hr => by
    simp only [absorb] at hs
    unfold abInt at hs
    split at hs
    · cases hs
      obtain ⟨u, us, rfl, h1, h2⟩ := hr.cons_of
      rw [h2.nil_of, h1.lit_eq]
      exact ⟨⟨rfl, rfl⟩, fun p hp => by simp at hp⟩
    · cases hs
  | .bool, cs, c, x, l, us, hs, hc, hr => by
    simp only [absorb] at hs
    unfold abBool at hs
    split at hs
    · cases hs
      obtain ⟨u, us, rfl, h1, h2⟩ := hr.cons_of
      rw [h2.nil_of, h1.lit_eq]
      exact ⟨⟨rfl, rfl⟩, fun p hp => by simp at hp⟩
    · cases hs
  | .str, cs, c, x, l, us, hs, hc, hr => by
    simp only [absorb] at hs
    unfold abStr at hs
    split at hs
    · cases hs
      obtain ⟨u, us, rfl, h1, h2⟩ := hr.cons_of
      rw [h2.nil_of, h1.lit_eq]
      exact ⟨⟨rfl, rfl⟩, fun p hp => by simp at hp⟩
    · cases hs
  | .pair a b, cs, c, x, l, us, hs, hc, hr => by
    simp only [absorb] at hs
    split at hs
    · rename_i c1 x1 l1 c2 x2 l2 e1 e2
      cases hs
      obtain ⟨g1, g2⟩ := absorb_sound h a _ e1 hc.1 (hr.take a.sz)
      obtain ⟨g3, g4⟩ := absorb_sound h b _ e2 hc.2 (hr.drop a.sz)
      refine ⟨⟨_, _, _, _, (List.take_append_drop a.sz us).symm, by simp, g1, g3⟩, fun p hp => ?_⟩
      rcases List.mem_append.1 hp with hp | hp
      · exact g2 p hp
      · exact g4 p hp
    · cases hs
  | .list t, cs, c, x, l, us, hs, hc, hr => by
    simp only [absorb] at hs
    unfold abList at hs
    split at hs
    · rename_i o n
      split at hs
      · rename_i e t' ys hob
        split at hs
        · rename_i e'
          subst e'
          cases hs
          obtain ⟨u, us, rfl, h1, h2⟩ := hr.cons_of
          rw [h2.nil_of]
          obtain ⟨rfl, cells, bss, g1, g2, g3, g4, g5⟩ := h.wholeRow hob hc h1
          refine ⟨⟨_, e, rfl, cells, bss, g1, g2, g3, g4, by simpa using g5⟩, fun p hp => ?_⟩
          simp only [List.mem_singleton] at hp
          subst hp
          exact ⟨by rw [hob]; simp [AO.len, hc], e, _, ys, hob⟩
        · cases hs
      · cases hs
    · cases hs
      obtain ⟨u, us, rfl, h1, h2⟩ := hr.cons_of
      rw [h2.nil_of, h1.lit_eq]
      exact ⟨⟨_, 0, rfl, [], [], rfl, rfl, fun k x u b h => by simp at h, World.ownsRow_nil _ _ _ _, rfl⟩, fun p hp => by simp at hp⟩
    · cases hs
/-- objects are told anew, nothing in memory turns -/
theorem RelW.relabel (h : RelW w0 get obj a W ρ β) {obj' : Nat → AO} {ρ' : Nat → Value} {β' : Nat → List Nat} (hlen : ∀ o m, (obj o).len = some m → (obj' o).len = some m ∧ ρ' o = ρ o)
    (hI : ∀ o b, (obj' o).len ≠ none → b ∈ β' o → ∃ o', (obj o').len ≠ none ∧ b ∈ β o')
    (hobjs : (∀ c u, Rep (cxOf obj W ρ β) c u → Rep (cxOf obj' W ρ' β') c u) → ∀ o, (obj' o).own (cxOf obj' W ρ' β') w0.heap.size (ρ' o) (β' o))
    (hap : ∀ o o' b, (obj' o).len ≠ none → (obj' o').len ≠ none → b ∈ β' o → b ∈ β' o' → o = o') (hnd : ∀ o, (obj' o).len ≠ none → (β' o).Nodup) :
    Cx.Le (cxOf obj W ρ β) (cxOf obj' W ρ' β') ∧ RelW w0 get obj' a W ρ' β' := by
  have hle : Cx.Le (cxOf obj W ρ β) (cxOf obj' W ρ' β') := by
    refine ⟨fun b hb => ⟨hb.1, fun o ho hbo => ?_⟩, fun _ _ => rfl, fun o n ho => (hlen o n ho).1, fun o n ho => (hlen o n ho).2⟩
    obtain ⟨o', h1, h2⟩ := hI o b ho hbo
    exact hb.2 o' h1 h2
  refine ⟨hle, h.below, hobjs fun c u hr => hr.le hle, fun o b ho hb => ?_, hap, hnd, fun t x hx => ?_, h.defers⟩
  · obtain ⟨o', h1, h2⟩ := hI o b ho hb
    exact h.lt o' b h1 h2
  · obtain ⟨v, h1, h2⟩ := h.slots t x hx
    exact ⟨v, h1, h2.le hle⟩
/-- how others come along -/
theorem AO.own_other {C C' : Cx} {lo : Nat} {v : Value} {bs : List Nat} {x : AO} (hW : C'.W = C.W) (hr : ∀ c u, Rep C c u → Rep C' c u) (h : x.own C lo v bs) : x.own C' lo v bs :=
  AO.own_mono (Nat.le_refl _) (fun _ _ => by rw [hW]) hr h
theorem parts_join {lo : Nat} {t : Ty} {pre suf : List t.den} {x : t.den} {c1 c2 : List (List Value)} {b1 b2 : List (List Nat)} {us : List Value} {bs : List Nat} (h1 : partsL W lo t pre c1 b1) (h : t.own W lo x us bs) (h2 : partsL W lo t suf c2 b2) : partsL W lo t (pre ++ x :: suf) (c1 ++ us :: c2) (b1 ++ bs :: b2) := by
  refine ⟨by simp [h1.1, h2.1], by simp [h1.2.1, h2.2.1], fun k y u b hy hu hb => ?_⟩
  rcases Nat.lt_or_ge k pre.length with hk | hk
  · rw [List.getElem?_append_left hk] at hy
    rw [List.getElem?_append_left (by rw [h1.1]; exact hk)] at hu
    rw [List.getElem?_append_left (by rw [h1.2.1]; exact hk)] at hb
    exact h1.2.2 k y u b hy hu hb
  · rw [List.getElem?_append_right hk] at hy
    rw [List.getElem?_append_right (by rw [h1.1]; exact hk), h1.1] at hu
    rw [List.getElem?_append_right (by rw [h1.2.1]; exact hk), h1.2.1] at hb
    generalize k - pre.length = j at hy hu hb
    cases j with
    | zero => simp at hy hu hb; subst hy hu hb; exact h
    | succ j => exact h2.2.2 j y u b (by simpa using hy) (by simpa using hu) (by simpa using hb)
theorem parts_take {lo : Nat} {t : Ty} {xs : List t.den} {cs : List (List Value)} {bs : List (List Nat)} (h : partsL W lo t xs cs bs) (k : Nat) : partsL W lo t (xs.take k) (cs.take k) (bs.take k) := by
  refine ⟨by simp [h.1], by simp [h.2.1], fun j x u b hx hu hb => ?_⟩
  rw [List.getElem?_take] at hx hu hb
  split at hx
  · rename_i hj; rw [if_pos hj] at hu hb; exact h.2.2 j x u b hx hu hb
  · cases hx
theorem parts_drop {lo : Nat} {t : Ty} {xs : List t.den} {cs : List (List Value)} {bs : List (List Nat)} (h : partsL W lo t xs cs bs) (k : Nat) : partsL W lo t (xs.drop k) (cs.drop k) (bs.drop k) := by
  refine ⟨by simp [h.1], by simp [h.2.1], fun j x u b hx hu hb => ?_⟩
  rw [List.getElem?_drop] at hx hu hb
  exact h.2.2 _ x u b hx hu hb
theorem gones_mem : ∀ {l : List (Nat × Nat)} {p : Nat × AO}, p ∈ gones l → ∃ q ∈ l, p = (q.1, .gone q.2)
  | [], p, h => by simp [gones] at h
  | (o, n) :: l, p, h => by
    simp only [gones, List.mem_cons] at h
    rcases h with rfl | h
    · exact ⟨(o, n), by simp, rfl⟩
    · obtain ⟨q, h1, h2⟩ := gones_mem h
      exact ⟨q, by simp [h1], h2⟩
theorem gones_in : ∀ {l : List (Nat × Nat)} {q : Nat × Nat}, q ∈ l → (q.1, AO.gone q.2) ∈ gones l
  | [], q, h => by simp at h
  | (o, n) :: l, q, h => by
    rcases List.mem_cons.1 h with rfl | h
    · simp [gones]
    · simp [gones, gones_in h]
theorem setE_in' {l : List (Nat × AO)} {o : Nat} (h : ∃ p ∈ l, p.1 = o) : ∃ p ∈ l, p.1 = o ∧ setE obj l o = p.2 := by
  induction l with
  | nil => obtain ⟨p, h1, _⟩ := h; simp at h1
  | cons q l ih =>
    obtain ⟨k, x⟩ := q
    by_cases e : o = k
    · subst e
      exact ⟨(o, x), by simp, rfl, by simp [setE, setO]⟩
    · obtain ⟨p, h1, h2⟩ := h
      rcases List.mem_cons.1 h1 with rfl | h1
      · exact absurd h2.symm e
      · obtain ⟨p', g1, g2, g3⟩ := ih ⟨p, h1, h2⟩
        exact ⟨p', by simp [g1], g2, by simp only [setE, setO, if_neg e]; exact g3⟩
theorem setE_out' {l : List (Nat × AO)} {o : Nat} (h : ∀ p ∈ l, p.1 ≠ o) : setE obj l o = obj o := by
  induction l with
  | nil => rfl
  | cons q l ih =>
    obtain ⟨k, x⟩ := q
    have e : o ≠ k := fun e => h (k, x) (by simp) e.symm
    simp only [setE, setO, if_neg e]
    exact ih fun p hp => h p (by simp [hp])
/-- an element's cells are taken into its row -/
theorem RelW.unfocus (h : RelW w0 get obj a W ρ β) {o : Nat} {e : TypeId} {t : Ty} {pre suf : List t.den} {cs : List AV} (hob : obj o = .hol e t pre cs suf) {c : Prop} {x : t.den} {l : List (Nat × Nat)} (hs : absorb obj t cs = some (c, x, l)) (hc : c) (hnd : (l.map (·.1)).Nodup) :
    ∃ β', Cx.Le (cxOf obj W ρ β) (cxOf (setE obj ((o, .row e t (pre ++ x :: suf)) :: gones l)) W ρ β') ∧ RelW w0 get (setE obj ((o, .row e t (pre ++ x :: suf)) :: gones l)) a W ρ β' := by
  have ho := h.objs o
  rw [hob] at ho
  obtain ⟨c1, b1, us, c2, b2, p1, p2, hcl, hreps, hrow, hbs⟩ := ho
  obtain ⟨hown, hl⟩ := absorb_sound h t cs hs hc hreps
  have hol : ∀ p ∈ l, p.1 ≠ o := by
    intro p hp e'
    obtain ⟨_, e2, t2, ys, g⟩ := hl p hp
    rw [e', hob] at g; cases g
  have hlo : (obj o).len = some (pre.length + 1 + suf.length) := by rw [hob]; rfl
  have hlo' : (obj o).len ≠ none := by rw [hlo]; simp
  let obj' := setE obj ((o, .row e t (pre ++ x :: suf)) :: gones l)
  let β' : Nat → List Nat := fun k => if k = o then (ρ o).ownBlock.toList ++ (b1 ++ (l.flatMap fun p => β p.1) :: b2).flatten else if k ∈ l.map (·.1) then [] else β k
  have ho' : obj' o = .row e t (pre ++ x :: suf) := by simp [obj', setE, setO]
  have hin : ∀ k, k ∈ l.map (·.1) → ∃ n, (obj k).len = some n ∧ obj' k = .gone n := by
    intro k hk
    obtain ⟨q, hq, rfl⟩ := List.mem_map.1 hk
    obtain ⟨p, g1, g2, g3⟩ := setE_in' (obj := obj) (l := gones l) (o := q.1) ⟨_, gones_in hq, rfl⟩
    obtain ⟨q', g4, rfl⟩ := gones_mem g1
    refine ⟨q'.2, by rw [← g2]; exact (hl q' g4).1, ?_⟩
    simp only [obj', setE, setO, if_neg (hol q hq)]
    exact g3
  have hout : ∀ k, k ≠ o → k ∉ l.map (·.1) → obj' k = obj k := by
    intro k h1 h2
    simp only [obj', setE, setO, if_neg h1]
    refine setE_out' fun p hp e' => h2 ?_
    obtain ⟨q, g1, rfl⟩ := gones_mem hp
    exact List.mem_map.2 ⟨q, g1, e'⟩
  have hlen : ∀ k m, (obj k).len = some m → (obj' k).len = some m := by
    intro k m hk
    by_cases e1 : k = o
    · subst e1
      rw [ho']; rw [hlo] at hk; rw [← hk]; simp [AO.len]; omega
    · by_cases e2 : k ∈ l.map (·.1)
      · obtain ⟨n, g1, g2⟩ := hin k e2
        rw [g2]; rw [g1] at hk; exact hk
      · rw [hout k e1 e2]; exact hk
  have hlive : ∀ k, (obj' k).len ≠ none → (obj k).len ≠ none := by
    intro k hk
    by_cases e1 : k = o
    · subst e1; exact hlo'
    · by_cases e2 : k ∈ l.map (·.1)
      · obtain ⟨n, g1, _⟩ := hin k e2; rw [g1]; simp
      · rwa [hout k e1 e2] at hk
  have hsrc : ∀ k b, (obj' k).len ≠ none → b ∈ β' k → ∃ k', (obj k').len ≠ none ∧ b ∈ β k' ∧ (k' = k ∨ (k = o ∧ k' ∈ l.map (·.1))) := by
    intro k b hk hb
    by_cases e1 : k = o
    · subst e1
      simp only [β', if_true, List.flatten_append, List.flatten_cons, List.mem_append] at hb
      rcases hb with hb | hb | hb | hb
      · exact ⟨k, hlo', by rw [hbs]; simp only [List.mem_append]; exact .inl (.inl hb), .inl rfl⟩
      · exact ⟨k, hlo', by rw [hbs]; simp only [List.mem_append]; exact .inl (.inr hb), .inl rfl⟩
      · obtain ⟨p, hp, hb⟩ := List.mem_flatMap.1 hb
        exact ⟨p.1, by rw [(hl p hp).1]; simp, hb, .inr ⟨rfl, List.mem_map_of_mem hp⟩⟩
      · exact ⟨k, hlo', by rw [hbs]; simp only [List.mem_append]; exact .inr hb, .inl rfl⟩
    · by_cases e2 : k ∈ l.map (·.1)
      · simp only [β', if_neg e1, if_pos e2] at hb
        simp at hb
      · simp only [β', if_neg e1, if_neg e2] at hb
        exact ⟨k, hlive k hk, hb, .inl rfl⟩
  have hne : ∀ k b, (obj' k).len ≠ none → b ∈ β' k → k ∉ l.map (·.1) := by
    intro k b _ hb e2
    by_cases e1 : k = o
    · subst e1
      obtain ⟨q, hq, e⟩ := List.mem_map.1 e2
      exact hol q hq e
    · simp only [β', if_neg e1, if_pos e2] at hb
      simp at hb
  have hgl : ∀ (l' : List (Nat × Nat)), (∀ p ∈ l', p ∈ l) → (l'.map (·.1)).Nodup → (l'.flatMap fun p => β p.1).Nodup := by
    intro l'
    induction l' with
    | nil => intro _ _; simp
    | cons q l' ih =>
      intro hsub hnd'
      simp only [List.map_cons, List.nodup_cons] at hnd'
      simp only [List.flatMap_cons]
      rw [List.nodup_append]
      refine ⟨h.nodup q.1 (by rw [(hl q (hsub q (by simp))).1]; simp), ih (fun p hp => hsub p (by simp [hp])) hnd'.2, fun b hb b' hb' e' => ?_⟩
      subst e'
      obtain ⟨p, hp, hb'⟩ := List.mem_flatMap.1 hb'
      have := h.apart q.1 p.1 b (by rw [(hl q (hsub q (by simp))).1]; simp) (by rw [(hl p (hsub p (by simp [hp]))).1]; simp) hb hb'
      exact hnd'.1 (List.mem_map.2 ⟨p, hp, this.symm⟩)
  refine ⟨β', h.relabel (obj' := obj') (ρ' := ρ) (fun k m hk => ⟨hlen k m hk, rfl⟩) (fun k b hk hb => by obtain ⟨k', g1, g2, _⟩ := hsrc k b hk hb; exact ⟨k', g1, g2⟩) (fun hrep k => ?_) (fun k k' b hk hk' hb hb' => ?_) (fun k hk => ?_)⟩
  · by_cases e1 : k = o
    · subst e1
      rw [ho']
      obtain ⟨j1, j2, j3⟩ := parts_join p1 hown p2
      refine ⟨c1 ++ us :: c2, b1 ++ (l.flatMap fun p => β p.1) :: b2, j1, j2, j3, ?_, by simp [β']⟩
      have e2 : (pre ++ x :: suf).length = pre.length + 1 + suf.length := by simp; omega
      rw [e2]
      simpa using hrow
    · by_cases e2 : k ∈ l.map (·.1)
      · obtain ⟨n, _, g2⟩ := hin k e2
        rw [g2]
        have hb : β' k = [] := by simp only [β', if_neg e1, if_pos e2]
        rw [hb]
        rfl
      · rw [hout k e1 e2]
        have hb : β' k = β k := by simp only [β', if_neg e1, if_neg e2]
        rw [hb]
        exact AO.own_other (C := cxOf obj W ρ β) rfl hrep (h.objs k)
  · obtain ⟨j, g1, g2, g3⟩ := hsrc k b hk hb
    obtain ⟨j', g1', g2', g3'⟩ := hsrc k' b hk' hb'
    have := h.apart j j' b g1 g1' g2 g2'
    subst this
    rcases g3 with rfl | ⟨rfl, g3⟩
    · rcases g3' with rfl | ⟨rfl, g3'⟩
      · rfl
      · exact absurd g3' (hne _ b hk hb)
    · rcases g3' with rfl | ⟨rfl, g3'⟩
      · exact absurd g3 (hne _ b hk' hb')
      · rfl
  · by_cases e1 : k = o
    · subst e1
      have n1 := h.nodup k hlo'
      rw [hbs] at n1
      have n2 := hgl l (fun p hp => hp) hnd
      simp only [β', if_true, List.flatten_append, List.flatten_cons]
      have hperm : ((ρ k).ownBlock.toList ++ (b1.flatten ++ ((l.flatMap fun p => β p.1) ++ b2.flatten))).Perm (((ρ k).ownBlock.toList ++ b1.flatten ++ b2.flatten) ++ l.flatMap fun p => β p.1) := by
        rw [← List.append_assoc, List.append_assoc _ b2.flatten]
        exact List.Perm.append_left _ List.perm_append_comm
      rw [hperm.nodup_iff, List.nodup_append]
      refine ⟨n1, n2, fun b hb b' hb' e' => ?_⟩
      subst e'
      obtain ⟨p, hp, hb'⟩ := List.mem_flatMap.1 hb'
      have := h.apart k p.1 b hlo' (by rw [(hl p hp).1]; simp) (by rw [hbs]; exact hb) hb'
      exact hol p hp this.symm
    · by_cases e2 : k ∈ l.map (·.1)
      · simp only [β', if_neg e1, if_pos e2]; exact List.nodup_nil
      · simp only [β', if_neg e1, if_neg e2]; exact h.nodup k (hlive k hk)
end
theorem Ty.own_len {W : World} {lo : Nat} : ∀ {t : Ty} {x : t.den} {us : List Value} {bs : List Nat}, t.own W lo x us bs → us.length = t.sz
  | .int, _, _, _, h => by rw [h.1]; rfl
  | .bool, _, _, _, h => by rw [h.1]; rfl
  | .str, _, _, _, h => by rw [h.1]; rfl
  | .pair a b, x, us, bs, ⟨u1, u2, b1, b2, e1, e2, h1, h2⟩ => by rw [e1, List.length_append, Ty.own_len h1, Ty.own_len h2]; rfl
  | .list t, xs, us, bs, ⟨v, e, e1, _⟩ => by rw [e1]; rfl
section
variable {h h' : Nat → AO}
theorem abList_congr {t : Ty} {cs : List AV} {r : Prop × List t.den × List (Nat × Nat)} (hs : abList h t cs = some r) (hh : ∀ id ∈ r.2.2.map (·.1), h id = h' id) : abList h' t cs = some r := by
  unfold abList at hs ⊢
  split at hs
  · rename_i o n
    have key : ∀ y, h o = y → (match y with
        | .row _ t' ys => if e : t' = t then some (n = ys.length, (e ▸ ys : List t.den), [(o, n)]) else none
        | _ => none) = some r → h' o = y := by
      intro y hy hm
      split at hm
      · split at hm
        · cases hm; rw [← hh o (by simp)]; exact hy
        · cases hm
      · cases hm
    have := key (h o) rfl hs
    rw [this]; exact hs
  · exact hs
  · cases hs
theorem absorb_congr : ∀ (t : Ty) (cs : List AV) {r : Prop × t.den × List (Nat × Nat)}, absorb h t cs = some r → (∀ id ∈ r.2.2.map (·.1), h id = h' id) → absorb h' t cs = some r
  | .int, _, _, hs, _ => hs
  | .bool, _, _, hs, _ => hs
  | .str, _, _, hs, _ => hs
  | .pair a b, cs, r, hs, hh => by
    simp only [absorb] at hs ⊢
    split at hs
    · rename_i c1 x1 l1 c2 x2 l2 e1 e2
      cases hs
      rw [absorb_congr a _ e1 (fun id hid => hh id (by simp only [List.map_append, List.mem_append]; exact .inl hid)), absorb_congr b _ e2 (fun id hid => hh id (by simp only [List.map_append, List.mem_append]; exact .inr hid))]
    · cases hs
  | .list t, cs, r, hs, hh => abList_congr (t := t) hs hh
end
section
variable {P : Program} {Θ : TypeId → Option TI} {w0 : World} {get : Nat → Option AV} {obj : Nat → AO} {a : Act} {W : World} {ρ : Nat → Value} {β : Nat → List Nat}
theorem flat_split (k : Nat) {α : Type} : ∀ (cs : List (List α)) (hk : k < cs.length), cs.flatten = (cs.take k).flatten ++ cs[k] ++ (cs.drop (k + 1)).flatten := by
  intro cs hk
  conv => lhs; rw [← List.take_append_drop k cs, List.drop_eq_getElem_cons hk]
  simp only [List.flatten_append, List.flatten_cons, List.append_assoc]
/-- an element is given up: its cells may be written -/
theorem RelW.focusDrop (h : RelW w0 get obj a W ρ β) {o : Nat} {e : TypeId} {t : Ty} {xs : List t.den} (hob : obj o = .row e t xs) {k : Nat} (hk : k < xs.length) :
    ∃ β', Cx.Le (cxOf obj W ρ β) (cxOf (setO obj o (.hol e t (xs.take k) (List.replicate t.sz .any) (xs.drop (k + 1)))) W ρ β') ∧ RelW w0 get (setO obj o (.hol e t (xs.take k) (List.replicate t.sz .any) (xs.drop (k + 1)))) a W ρ β' := by
  have ho := h.objs o
  rw [hob] at ho
  obtain ⟨cells, bss, l1, l2, l3, hrow, hbs⟩ := ho
  have hp : partsL W w0.heap.size t xs cells bss := ⟨l1, l2, l3⟩
  have hkc : k < cells.length := by omega
  have hkb : k < bss.length := by omega
  have hlo : (obj o).len = some xs.length := by rw [hob]; rfl
  have hlo' : (obj o).len ≠ none := by rw [hlo]; simp
  have hsub : ∀ b, b ∈ (ρ o).ownBlock.toList ++ (bss.take k).flatten ++ (bss.drop (k + 1)).flatten → b ∈ β o := by
    intro b hb
    rw [hbs, flat_split k bss hkb]
    simp only [List.mem_append] at hb ⊢
    rcases hb with (hb | hb) | hb
    · exact .inl hb
    · exact .inr (.inl (.inl hb))
    · exact .inr (.inr hb)
  let obj' := setO obj o (.hol e t (xs.take k) (List.replicate t.sz .any) (xs.drop (k + 1)))
  let β' : Nat → List Nat := fun j => if j = o then (ρ o).ownBlock.toList ++ (bss.take k).flatten ++ (bss.drop (k + 1)).flatten else β j
  have ho' : obj' o = .hol e t (xs.take k) (List.replicate t.sz .any) (xs.drop (k + 1)) := by simp [obj', setO]
  have hoth : ∀ j, j ≠ o → obj' j = obj j := fun j hj => by simp [obj', setO, hj]
  have hlive : ∀ j, (obj' j).len ≠ none → (obj j).len ≠ none := by
    intro j hj
    by_cases e1 : j = o
    · subst e1; exact hlo'
    · rwa [hoth j e1] at hj
  have hin : ∀ j b, b ∈ β' j → b ∈ β j := by
    intro j b hb
    by_cases e1 : j = o
    · subst e1; simp only [β', if_true] at hb; exact hsub b hb
    · simpa only [β', if_neg e1] using hb
  refine ⟨β', h.relabel (obj' := obj') (ρ' := ρ) (fun j m hj => ⟨?_, rfl⟩) (fun j b hj hb => ⟨j, hlive j hj, hin j b hb⟩) (fun hrep j => ?_) (fun j j' b hj hj' hb hb' => h.apart j j' b (hlive j hj) (hlive j' hj') (hin j b hb) (hin j' b hb')) (fun j hj => ?_)⟩
  · by_cases e1 : j = o
    · subst e1
      rw [ho']; rw [hlo] at hj; rw [← hj]; simp [AO.len]; omega
    · rw [hoth j e1]; exact hj
  · by_cases e1 : j = o
    · subst e1
      rw [ho']
      have hu : cells[k].length = t.sz := Ty.own_len (l3 k _ _ _ (List.getElem?_eq_getElem hk) (List.getElem?_eq_getElem hkc) (List.getElem?_eq_getElem hkb))
      refine ⟨cells.take k, bss.take k, cells[k], cells.drop (k + 1), bss.drop (k + 1), parts_take hp k, parts_drop hp (k + 1), by simp, ⟨by simp [hu], fun i c u hc _ => ?_⟩, ?_, by simp [β']⟩
      · rw [List.getElem?_replicate] at hc
        split at hc
        · cases hc; exact .any _
        · cases hc
      · rw [← flat_split k cells hkc]
        have : (xs.take k).length + 1 + (xs.drop (k + 1)).length = xs.length := by simp; omega
        rw [this]; exact hrow
    · rw [hoth j e1]
      have hb : β' j = β j := by simp only [β', if_neg e1]
      rw [hb]
      exact AO.own_other (C := cxOf obj W ρ β) rfl hrep (h.objs j)
  · by_cases e1 : j = o
    · subst e1
      simp only [β', if_true]
      have n1 := h.nodup j hlo'
      rw [hbs, flat_split k bss hkb] at n1
      refine n1.sublist ?_
      rw [List.append_assoc]
      refine List.Sublist.append_left ?_ _
      rw [List.append_assoc]
      exact List.Sublist.append_left (List.sublist_append_right _ _) _
    · simp only [β', if_neg e1]; exact h.nodup j (hlive j hj)
/-- an element in reach of writes -/
theorem RelW.holAt (h : RelW w0 get obj a W ρ β) {o n sz k off : Nat} {e : TypeId} {t : Ty} {pre suf : List t.den} {cs : List AV} (hob : obj o = .hol e t pre cs suf) (hn : n = pre.length + 1 + suf.length) {u : Value} (hr : Rep (cxOf obj W ρ β) (.elt o n sz k off) u) :
    ∃ b c, u = .pointer (some ⟨b, k * sz + off, none⟩) ∧ ρ o = .slice (some ⟨b, 0, none⟩) n c := by
  cases hr with
  | @elt _ _ _ _ _ m b g1 g2 g3 =>
    have hm : n = m := by
      have : (obj o).len = some m := g1
      rw [hob] at this
      simp [AO.len] at this; omega
    obtain ⟨c, hc⟩ := g3 hm
    exact ⟨b, c, rfl, hc⟩
theorem parts_flat {lo : Nat} {t : Ty} {xs : List t.den} {cs : List (List Value)} {bs : List (List Nat)} (h : partsL W lo t xs cs bs) : cs.flatten.length = xs.length * t.sz := by
  obtain ⟨h1, h2, h3⟩ := h
  have hall : ∀ r ∈ cs, r.length = t.sz := by
    intro r hr
    obtain ⟨k, hk, rfl⟩ := List.getElem_of_mem hr
    exact Ty.own_len (h3 k (xs[k]'(by omega)) _ (bs[k]'(by omega)) (List.getElem?_eq_getElem _) (List.getElem?_eq_getElem hk) (List.getElem?_eq_getElem _))
  rw [← h1]
  clear h1 h3
  induction cs with
  | nil => simp
  | cons r cs ih => simp only [List.flatten_cons, List.length_append, List.length_cons, ih fun r hr => hall r (by simp [hr]), hall r (by simp), Nat.succ_mul]; omega
end
section
variable {P : Program} {Θ : TypeId → Option TI} {w0 : World} {get : Nat → Option AV} {obj : Nat → AO} {a : Act} {W : World} {ρ : Nat → Value} {β : Nat → List Nat}
theorem hol_row (h : RelW w0 get obj a W ρ β) {o : Nat} {e : TypeId} {t : Ty} {pre suf : List t.den} {cs : List AV} (hob : obj o = .hol e t pre cs suf) :
    ∃ c1 b1 us c2 b2, partsL W w0.heap.size t pre c1 b1 ∧ partsL W w0.heap.size t suf c2 b2 ∧ cs.length = t.sz ∧ Reps (cxOf obj W ρ β) cs us ∧ W.ownsRow w0.heap.size e t.sz (ρ o) (pre.length + 1 + suf.length) (c1.flatten ++ us ++ c2.flatten) ∧ β o = (ρ o).ownBlock.toList ++ b1.flatten ++ b2.flatten ∧ c1.flatten.length = pre.length * t.sz ∧ us.length = t.sz := by
  have ho := h.objs o
  rw [hob] at ho
  obtain ⟨c1, b1, us, c2, b2, g1, g2, g3, g4, g5, g6⟩ := ho
  exact ⟨c1, b1, us, c2, b2, g1, g2, g3, g4, g5, g6, parts_flat g1, by rw [g4.1, g3]⟩
theorem sound_load_hol (hΘ : ∀ t ti, Θ t = some ti → ti.ok P t) (h : RelW w0 get obj a W ρ β) {o : Oper} {T : TypeId} {p : Operand} (ho : o.op = .load T p) {ti : TI} (e0 : Θ T = some ti) {b n k off : Nat} {e : TypeId} {t : Ty} {pre suf : List t.den} {cs : List AV} (hr : Rep (cxOf obj W ρ β) (.elt b n t.sz k off) (a.eval p)) (hob : obj b = .hol e t pre cs suf) (hn : n = pre.length + 1 + suf.length) (hk : k = pre.length) {x : AV} (hl : loadAV ti (cs.drop off) = some x) : MemOut P w0 get obj a W o x [] := by
  have hx : execOp a.eval o = (do pure (.value (← Instr.loadAt T (a.eval p)))) := by unfold execOp; rw [ho]
  obtain ⟨g, c, h1, h2⟩ := h.holAt hob hn hr
  obtain ⟨c1, b1, us, c2, b2, g1, g2, g3, g4, g5, g6, g7, g8⟩ := hol_row h hob
  rw [h2] at g5
  obtain ⟨v, hv1, hv2⟩ := load_any (C := cxOf obj W ρ β) (hΘ _ _ e0) (ad := ⟨g, k * t.sz + off, none⟩) hl (g4.drop off) (fun j u hj => by
    rw [List.getElem?_drop] at hj
    have hlt : off + j < us.length := (List.getElem?_eq_some_iff.1 hj).1
    have h5 := g5.cells (g := g) rfl (k * t.sz + (off + j)) u (by
      rw [List.append_assoc, List.getElem?_append_right (by rw [g7, hk]; omega), g7, hk, Nat.add_sub_cancel_left, List.getElem?_append_left hlt]
      exact hj)
    rw [Addr.add_lit, Nat.zero_add] at h5
    show W.cell? _ = _
    rw [Addr.add_lit, Nat.add_assoc]; exact h5)
  exact ⟨.value v, W, ρ, β, by rw [hx, h1]; exact run_v hv1, .inr ⟨v, rfl, hv2⟩, h⟩
theorem seg_set {α : Type} (A us B vs : List α) (off : Nat) (hle : off + vs.length ≤ us.length) : (A ++ us ++ B).take (A.length + off) ++ vs ++ (A ++ us ++ B).drop (A.length + off + vs.length) = A ++ (us.take off ++ vs ++ us.drop (off + vs.length)) ++ B := by
  rw [List.append_assoc A us B, List.take_length_add_append, Nat.add_assoc, List.drop_length_add_append, List.take_append_of_le_length (by omega), List.drop_append_of_le_length hle]
  simp only [List.append_assoc]
theorem sound_store_hol (hΘ : ∀ t ti, Θ t = some ti → ti.ok P t) (h : RelW w0 get obj a W ρ β) {o : Oper} {T : TypeId} {p y : Operand} (ho : o.op = .store T p y) {ti : TI} (e0 : Θ T = some ti) {b n k off : Nat} {e : TypeId} {t : Ty} {pre suf : List t.den} {cs : List AV} (hr : Rep (cxOf obj W ρ β) (.elt b n t.sz k off) (a.eval p)) (hob : obj b = .hol e t pre cs suf) (hn : n = pre.length + 1 + suf.length) (hk : k = pre.length) {x : AV} {vs : List AV} (hv : Rep (cxOf obj W ρ β) x (a.eval y)) (hvs : x.cells = some vs) (hnv : vs.length = ti.zero.length) (hle : off + vs.length ≤ t.sz) (h1c : vs.all AV.isCell = true) :
    ∃ W', (execOp a.eval o).run P W = .ok .skip W' ∧ RelW w0 get (setO obj b (.hol e t pre (cs.take off ++ vs ++ cs.drop (off + vs.length)) suf)) a W' ρ β := by
  have hx : execOp a.eval o = (do Instr.storeAt T (a.eval p) (a.eval y); pure .skip) := by unfold execOp; rw [ho]
  obtain ⟨g, c, h1, h2⟩ := h.holAt hob hn hr
  obtain ⟨c1, b1, us, c2, b2, g1, g2, g3, g4, g5, g6, g7, g8⟩ := hol_row h hob
  have hreps := (AV.cells_rep hv hvs).1
  have hl := hreps.1
  have hlb : (obj b).len ≠ none := by rw [hob]; simp [AO.len]
  have g5' := g5
  rw [h2] at g5
  have hN : (pre.length + 1 + suf.length) = n := hn.symm
  rw [hN] at g5
  obtain ⟨w', s1, s2, s3⟩ := store_any (hΘ _ _ e0) g5 (v := a.eval y) (vs := (a.eval y).cells.toList) (off := k * t.sz + off) rfl (by rw [hl]; exact hnv) (by rw [hl]; simp only [List.length_append, g7, g8, hk]; omega) (reps_cell hreps h1c)
  have hkk : k * t.sz = c1.flatten.length := by rw [g7, hk]
  rw [hkk, seg_set _ _ _ _ _ (by rw [hl, g8]; exact hle)] at s2
  refine ⟨w', ?_, ?_⟩
  · rw [hx, h1, Sem.run_bind, s1]; rfl
  · have hgb : W.grownBy w' (ρ b).ownBlock := by rw [h2]; exact s3
    have hnd := h.nodup b hlb
    rw [g6] at hnd
    have hblk : ∀ bb, bb ∈ b1.flatten ∨ bb ∈ b2.flatten → w'.heap[bb]? = W.heap[bb]? := by
      intro bb hbb
      refine hgb.block bb (h.lt b bb hlb (by rw [g6]; simp only [List.mem_append]; rcases hbb with hbb | hbb; exact .inl (.inr hbb); exact .inr hbb)).2 fun e' => ?_
      rw [List.append_assoc, List.nodup_append] at hnd
      exact hnd.2.2 bb (by rw [← e']; simp) bb (by simp only [List.mem_append]; exact hbb) rfl
    refine h.set_ (by rw [hob]; rfl) ⟨_, by rw [hob]; rfl, rfl⟩ hgb (fun C' hk' hW => ?_)
    refine ⟨c1, b1, us.take off ++ (a.eval y).cells.toList ++ us.drop (off + (a.eval y).cells.toList.length), c2, b2, ?_, ?_, ?_, ?_, ?_, g6⟩
    · rw [hW]; exact partsL_mono (Nat.le_refl _) (fun bb hbb => hblk bb (.inl hbb)) g1
    · rw [hW]; exact partsL_mono (Nat.le_refl _) (fun bb hbb => hblk bb (.inr hbb)) g2
    · simp only [List.length_append, List.length_take, List.length_drop]; omega
    · rw [hl]
      exact ((((g4.take off).append hreps).append (g4.drop (off + vs.length))).mono fun c u _ => hk' c u)
    · rw [hW, h2, hN]; exact s2
theorem setE_same {obj obj' : Nat → AO} : ∀ {l : List (Nat × AO)} {o : Nat}, (∃ p ∈ l, p.1 = o) → setE obj l o = setE obj' l o
  | [], _, ⟨p, h, _⟩ => by simp at h
  | (k, x) :: l, o, ⟨p, h1, h2⟩ => by
    by_cases e : o = k
    · simp [setE, setO, e]
    · rcases List.mem_cons.1 h1 with rfl | h1
      · exact absurd h2.symm e
      · simp only [setE, setO, if_neg e]
        exact setE_same ⟨p, h1, h2⟩
theorem setE_setO1 {obj : Nat → AO} {o : Nat} {x z : AO} {l : List (Nat × AO)} : setE (setO obj o x) ((o, z) :: l) = setE obj ((o, z) :: l) := by
  funext k
  by_cases hm : ∃ p ∈ ((o, z) :: l), p.1 = k
  · exact setE_same hm
  · have h' : ∀ p ∈ ((o, z) :: l), p.1 ≠ k := fun p hp e' => hm ⟨p, hp, e'⟩
    rw [setE_out' h', setE_out' h']
    have : k ≠ o := fun e => h' (o, z) (by simp) e.symm
    simp [setO, this]
theorem setE_setO {obj : Nat → AO} {o : Nat} {x y z : AO} {l : List (Nat × AO)} : setE (setO (setO obj o x) o y) ((o, z) :: l) = setE (setO obj o x) ((o, z) :: l) := setE_setO1
theorem sound_store_deep (hΘ : ∀ t ti, Θ t = some ti → ti.ok P t) (h : RelW w0 get obj a W ρ β) {o : Oper} {T : TypeId} {p y : Operand} (ho : o.op = .store T p y) {ti : TI} (e0 : Θ T = some ti) {b n k : Nat} {e : TypeId} {t : Ty} {xs : List t.den} (hr : Rep (cxOf obj W ρ β) (.elt b n t.sz k 0) (a.eval p)) (hob : obj b = .row e t xs) (hn : n = xs.length) (hk : k < n) {x : AV} {vs : List AV} (hv : Rep (cxOf obj W ρ β) x (a.eval y)) (hvs : x.cells = some vs) (hsz : vs.length = t.sz) (hnv : vs.length = ti.zero.length) (h1c : vs.all AV.isCell = true) {c : Prop} {z : t.den} {l : List (Nat × Nat)} (hs : absorb obj t vs = some (c, z, l)) (hc : c) (hnd : (b :: l.map (·.1)).Nodup) :
    MemOut P w0 get obj a W o .any ((b, .row e t (xs.set k z)) :: gones l) := by
  rw [hn] at hk
  rw [List.nodup_cons] at hnd
  obtain ⟨β1, hle1, h1⟩ := h.focusDrop hob hk
  have hsame : setO obj b (.hol e t (xs.take k) (List.replicate t.sz .any) (xs.drop (k + 1))) b = .hol e t (xs.take k) (List.replicate t.sz .any) (xs.drop (k + 1)) := setO_same _ _ _
  obtain ⟨W', s1, s2⟩ := sound_store_hol hΘ h1 ho e0 (hr.le hle1) hsame (by rw [hn]; simp; omega) (by simp; omega) (hv.le hle1) hvs hnv (by omega) h1c
  have e1 : (List.replicate t.sz AV.any).take 0 ++ vs ++ (List.replicate t.sz AV.any).drop (0 + vs.length) = vs := by
    rw [Nat.zero_add, List.drop_of_length_le (by simp [hsz])]; simp
  rw [e1] at s2
  have hs2 : absorb (setO (setO obj b (.hol e t (xs.take k) (List.replicate t.sz .any) (xs.drop (k + 1)))) b (.hol e t (xs.take k) vs (xs.drop (k + 1)))) t vs = some (c, z, l) :=
    absorb_congr t vs hs fun id hid => by
      have hne : id ≠ b := fun e' => hnd.1 (by rw [← e']; exact hid)
      rw [setO_other hne, setO_other hne]
  obtain ⟨β2, _, h2⟩ := s2.unfocus (setO_same _ _ _) hs2 hc hnd.2
  rw [setE_setO, setE_setO1] at h2
  refine ⟨.skip, W', ρ, β2, s1, .inl ⟨rfl, rfl⟩, ?_⟩
  have e2 : xs.take k ++ z :: xs.drop (k + 1) = xs.set k z := by rw [List.set_eq_take_append_cons_drop, if_pos hk]
  rw [e2] at h2
  exact h2
end
section
variable {P : Program} {Θ : TypeId → Option TI} {w0 : World} {get : Nat → Option AV} {obj : Nat → AO} {a : Act} {W : World} {ρ : Nat → Value} {β : Nat → List Nat}
theorem mix_src (h : RelW w0 get obj a W ρ β) {m : Nat} {e : TypeId} {sz : Nat} {row : List AV} (hob : obj m = .mix e sz [row]) {u : Value} (hr : Rep (cxOf obj W ρ β) (.own m 1) u) : ∃ A cp us, u = .slice A 1 cp ∧ Reads W W.heap.size sz A 1 us ∧ Reps (cxOf obj W ρ β) row us := by
  have ho := h.objs m
  rw [hob] at ho
  obtain ⟨us, h1, h2, h3, h4⟩ := ho
  cases hr with
  | own g1 g2 g3 g4 =>
    obtain ⟨A, cp, rfl, g5, g6⟩ := g3
    have hm : (obj m).len = some 1 := by rw [hob]; rfl
    have e1 := g4 (by
      have : (obj m).len = some _ := g1
      rw [hm] at this; injection this with this)
    have e2 : ρ m = .slice A 1 cp := e1.symm
    rw [e2] at h1
    exact ⟨A, cp, us, rfl, Reads.of_own h1, by simpa using h2⟩
theorem sound_append_deep (hΘ : ∀ t ti, Θ t = some ti → ti.ok P t) (h : RelW w0 get obj a W ρ β) {o : Oper} {cl : Call} (ho : o.op = .call cl) {s x : Operand} {T : TypeId} (hcal : cl.callee = .builtin .append) (hargs : cl.args.toList = [s, x]) (htys : cl.argTypes.toList = [T, T]) {ti : TI} (e0 : Θ T = some ti) {e : TypeId} {y t : Ty} {b : Nat} (hel : ti.el = some (e, y, b)) (hyt : y.sz = t.sz) (hb : b ≤ 1000) {oo n : Nat} (hs : Rep (cxOf obj W ρ β) (.own oo n) (a.eval s)) {xs : List t.den} (hob : obj oo = .row e t xs) {m : Nat} {em : TypeId} {row : List AV} (hm : obj m = .mix em t.sz [row]) (hx : Rep (cxOf obj W ρ β) (.own m 1) (a.eval x)) (hrl : row.length = t.sz) (hcell : row.all AV.isCell = true) {c : Prop} {z : t.den} {l : List (Nat × Nat)} (hab : absorb obj t row = some (c, z, l)) (hc : c) (hnd : (oo :: l.map (·.1)).Nodup) (hn : n = xs.length) (hbig : xs.length + 1 ≤ 1000000000) :
    MemOut P w0 get obj a W o (.own oo (xs ++ [z]).length) ((oo, .row e t (xs ++ [z])) :: gones l) := by
  obtain ⟨hu, i', zz, hi', hz, hsi, hbb, hzs, h00, hdf⟩ := (hΘ _ _ e0).el e y b hel
  rw [List.nodup_cons] at hnd
  have hobj := h.objs oo
  rw [hob] at hobj
  obtain ⟨cells, bss, p1, p2, p3, hrow0, hbs⟩ := hobj
  have hp : partsL W w0.heap.size t xs cells bss := ⟨p1, p2, p3⟩
  have hlen : (obj oo).len = some xs.length := by rw [hob]; rfl
  have hln : (obj oo).len ≠ none := by rw [hlen]; simp
  obtain ⟨A, cp, us, g1, g2, g3⟩ := mix_src h hm hx
  have hv : a.eval s = ρ oo := by
    generalize hu' : a.eval s = u at hs
    cases hs with
    | own f1 f2 f3 f4 =>
      refine f4 ?_
      have : (obj oo).len = some _ := f1
      rw [hlen] at this; injection this with this; omega
  obtain ⟨v', w', f1, f2, f3, f4, f5⟩ := run_append_full (P := P) W w0.heap.size T o.type e i' zz t.sz b hu hi' hz (by omega) hbb (by omega) (by omega) (ρ oo) xs.length _ hrow0 _ A 1 cp _ g2 (reps_cell g3 hcell) (by unfold maxLen; omega) (by
    have : (xs.length + 1) * b ≤ 1000000000 * 1000 := Nat.mul_le_mul hbig hb
    omega) h.below.size
  have hndo := h.nodup oo hln
  rw [hbs] at hndo
  have hblk : ∀ bb, bb ∈ bss.flatten → w'.heap[bb]? = W.heap[bb]? := by
    intro bb hbb'
    refine f3.block bb (h.lt oo bb hln (by rw [hbs]; simp only [List.mem_append]; exact .inr hbb')).2 fun e' => ?_
    rw [List.nodup_append] at hndo
    exact hndo.2.2 bb (by rw [← e']; simp) bb hbb' rfl
  have hw := h.write (by rw [hob]; rfl) (o := oo) (W' := w') (obj' := setO obj oo (.hol e t xs row [])) (ρ' := fun k => if k = oo then v' else ρ k) (β' := fun k => if k = oo then v'.ownBlock.toList ++ bss.flatten ++ ([] : List (List Nat)).flatten else β k) (m := xs.length) (m' := xs.length + 1 + 0) hlen (by rw [setO_same]; rfl) (by omega) (fun e => by omega) (fun o' ho' => ⟨setO_other ho', by simp [ho'], by simp [ho']⟩) f3 (fun bk hbk => by
      simp only [if_true, List.flatten_nil, List.append_nil, List.mem_append, Option.mem_toList, Option.mem_def] at hbk
      rcases hbk with hbk | hbk
      · refine ⟨?_, f2.lt bk hbk⟩
        rcases f4 with f4 | f4
        · rw [f4] at hbk; left; rw [hbs, hbk]; simp
        · rw [f4] at hbk; right; injection hbk with hbk; omega
      · have hin : bk ∈ β oo := by rw [hbs]; simp only [List.mem_append]; exact .inr hbk
        have := h.lt oo bk hln hin
        exact ⟨.inl hin, this.1, Nat.lt_of_lt_of_le this.2 f3.size⟩) (by
      simp only [if_true, List.flatten_nil, List.append_nil]
      rcases f4 with f4 | f4
      · rw [f4]; exact hndo
      · rw [f4]
        simp only [Option.toList_some, List.singleton_append, List.nodup_cons]
        refine ⟨fun hin => ?_, (List.nodup_append.1 hndo).2.1⟩
        have := (h.lt oo _ hln (by rw [hbs]; simp only [List.mem_append]; exact .inr hin)).2
        omega) (fun hk => by
      rw [setO_same]
      simp only [if_true]
      exact ⟨cells, bss, us, [], [], partsL_mono (Nat.le_refl _) hblk hp, ⟨rfl, rfl, fun k x u b h => by simp at h⟩, hrl, g3.mono fun c u _ => hk c u, by simpa using f2, rfl⟩)
  have hab2 : absorb (setO obj oo (.hol e t xs row [])) t row = some (c, z, l) := absorb_congr t row hab fun id hid => by
    have hne : id ≠ oo := fun e' => hnd.1 (by rw [← e']; exact hid)
    rw [setO_other hne]
  obtain ⟨β2, hle2, h2⟩ := hw.2.unfocus (setO_same _ _ _) hab2 hc hnd.2
  rw [setE_setO1] at h2 hle2
  refine ⟨.value v', w', _, β2, ?_, .inr ⟨v', rfl, ?_⟩, h2⟩
  · rw [exec_append ho hcal hargs htys, hv, g1]
    exact run_v f1
  · refine .own (m := (xs ++ [z]).length) ?_ (Nat.le_refl _) (by simpa using own_hs f2) (fun _ => by simp)
    show (setE obj ((oo, _) :: gones l) oo).len = _
    simp [setE, setO, AO.len]
theorem sound_append_deep_nil (hΘ : ∀ t ti, Θ t = some ti → ti.ok P t) (h : RelW w0 get obj a W ρ β) {o : Oper} {cl : Call} (ho : o.op = .call cl) {s x : Operand} {T : TypeId} (hcal : cl.callee = .builtin .append) (hargs : cl.args.toList = [s, x]) (htys : cl.argTypes.toList = [T, T]) {ti : TI} (e0 : Θ T = some ti) {e : TypeId} {t : Ty} {b : Nat} (hel : ti.el = some (e, t, b)) (hb : b ≤ 1000) (hs : a.eval s = .slice none 0 0) {m : Nat} {em : TypeId} {row : List AV} (hm : obj m = .mix em t.sz [row]) (hx : Rep (cxOf obj W ρ β) (.own m 1) (a.eval x)) (hrl : row.length = t.sz) (hcell : row.all AV.isCell = true) {c : Prop} {z : t.den} {l : List (Nat × Nat)} (hab : absorb obj t row = some (c, z, l)) (hc : c) {nid : Nat} (hd : obj nid = .dead) (hnd : (nid :: l.map (·.1)).Nodup) :
    MemOut P w0 get obj a W o (.own nid 1) ((nid, .row e t [z]) :: gones l) := by
  obtain ⟨hu, i', zz, hi', hz, hsi, hbb, hzs, h00, hdf⟩ := (hΘ _ _ e0).el e t b hel
  rw [List.nodup_cons] at hnd
  obtain ⟨A, cp, us, g1, g2, g3⟩ := mix_src h hm hx
  obtain ⟨v', w', f1, f2, f3, f4, f5⟩ := run_append_full (P := P) W W.heap.size T o.type e i' zz t.sz b hu hi' hz hsi hbb hzs h00 (.slice none 0 0) 0 [] (World.ownsRow_nil W _ e t.sz) _ A 1 cp _ g2 (reps_cell g3 hcell) (by unfold maxLen; omega) (by omega) (Nat.le_refl _)
  rw [Nat.zero_add, List.nil_append] at f2
  have hbel : Below W.heap.size W w' := (Below.refl _ _).grown f3 (Nat.le_refl _) (fun k hk => by simp [Value.ownBlock] at hk)
  obtain ⟨ρ', β', e1, hle, h2⟩ := h.new1 (len_dead hd) (x := .hol e t [] row []) (W' := w') (v := v') (bs := v'.ownBlock.toList) hbel (by simp [AO.len])
    (fun C' hle hW => ⟨[], [], us, [], [], ⟨rfl, rfl, fun k x u b h => by simp at h⟩, ⟨rfl, rfl, fun k x u b h => by simp at h⟩, hrl, g3.le hle, by rw [hW]; simpa using f2, by simp⟩) (by cases v'.ownBlock <;> simp) (fun bk hbk => by
      simp only [Option.mem_toList, Option.mem_def] at hbk
      exact f2.lt bk hbk)
  have hab2 : absorb (setO obj nid (.hol e t [] row [])) t row = some (c, z, l) := absorb_congr t row hab fun id hid => by
    have hne : id ≠ nid := fun e' => hnd.1 (by rw [← e']; exact hid)
    rw [setO_other hne]
  obtain ⟨β2, hle2, h3⟩ := h2.unfocus (setO_same _ _ _) hab2 hc hnd.2
  rw [setE_setO1] at h3 hle2
  refine ⟨.value v', w', ρ', β2, ?_, .inr ⟨v', rfl, ?_⟩, h3⟩
  · rw [exec_append ho hcal hargs htys, hs, g1]
    exact run_v f1
  · refine .own (m := 1) ?_ (Nat.le_refl _) (own_hs f2) (fun _ => e1.symm)
    show (setE obj ((nid, _) :: gones l) nid).len = _
    simp [setE, setO, AO.len]
theorem take_vals {t : Ty} (hf : t.flat = true) : ∀ (xs : List t.den) (k : Nat), k ≤ xs.length → ((xs.take k).map t.vals).flatten = ((xs.map t.vals).flatten).take (k * t.sz)
  | [], k, _ => by simp
  | x :: xs, 0, _ => by simp
  | x :: xs, k + 1, hle => by
    simp only [List.take_succ_cons, List.map_cons, List.flatten_cons, take_vals hf xs k (by simpa using hle)]
    rw [show (k + 1) * t.sz = (t.vals x).length + k * t.sz by rw [Ty.vals_len t hf, Nat.succ_mul]; omega, List.take_length_add_append]
/-- an own slice cut at its end -/
theorem sound_cut (hΘ : ∀ t ti, Θ t = some ti → ti.ok P t) (h : RelW w0 get obj a W ρ β) {o : Oper} {T : TypeId} {x hi : Operand} (ho : o.op = .slice T x none (some hi) none) {ti : TI} (e0 : Θ T = some ti) {e' : TypeId} {y t : Ty} {b : Nat} (hel : ti.el = some (e', y, b)) {oo n : Nat} (hr : Rep (cxOf obj W ρ β) (.own oo n) (a.eval x)) {kd : IntKind} {i : Int} (hh : a.eval hi = .int kd i) {e : TypeId} {xs : List t.den} (hob : obj oo = .row e t xs) (hf : t.flat = true) (hn : n = xs.length) (h0 : 0 ≤ i) (h1 : i ≤ n) {nid : Nat} (hd : obj nid = .dead) :
    MemOut P w0 get obj a W o (.own nid i.toNat) [(nid, .row e t (xs.take i.toNat)), (oo, .gone n)] := by
  have hx : execOp a.eval o = (do pure (.value (← Instr.sliceAt T (a.eval x) none (some (a.eval hi)) none))) := by unfold execOp; rw [ho]; rfl
  obtain ⟨hu, hown⟩ := h.wholeRow hob hn hr
  obtain ⟨g1, g2⟩ := (ownL_flat hf).1 hown
  obtain ⟨A, c, hA, hc, hA2⟩ := own_hs g1
  have hne : oo ≠ nid := fun e => by rw [e, hd] at hob; cases hob
  have hle : i.toNat ≤ xs.length := by omega
  have hrun := run_sliceAt_any (P := P) (hΘ _ _ e0) hel A xs.length c none (some (a.eval hi)) 0 i.toNat (.inl ⟨rfl, rfl⟩) (.inr ⟨kd, i, by rw [hh], h0, rfl⟩) (by omega) (by omega) W
  have hval : (if c = 0 then A else A.map (·.add (0 * y.sz))) = A := by
    split
    · rfl
    · cases A with
      | none => rfl
      | some ad => simp [Addr.add]
  rw [hval] at hrun
  have hvals := take_vals hf xs i.toNat hle
  have hrow : W.ownsRow w0.heap.size e t.sz (.slice A i.toNat c) i.toNat ((xs.take i.toNat).map t.vals).flatten := by
    rw [hvals]
    rw [hA] at g1
    obtain ⟨k1, k2⟩ := g1
    have hlen2 : (((xs.map t.vals).flatten).take (i.toNat * t.sz)).length = i.toNat * t.sz := by
      rw [List.length_take, k1]
      exact Nat.min_eq_left (Nat.mul_le_mul_right _ hle)
    refine ⟨hlen2, ?_⟩
    rcases k2 with ⟨k2, k3⟩ | ⟨g, cap, cur, k2, k3, k4, k5, k6, k7, k8⟩
    · simp only [Value.slice.injEq] at k2
      obtain ⟨rfl, hxl, rfl⟩ := k2
      have : i.toNat = 0 := by omega
      rw [this]; exact .inl ⟨rfl, rfl⟩
    · simp only [Value.slice.injEq] at k2
      obtain ⟨rfl, _, rfl⟩ := k2
      refine .inr ⟨g, c, cur, rfl, k3, k4, by omega, k6, k7, ?_⟩
      have : (cur.toList.take (i.toNat * t.sz)) = (cur.toList.take (xs.length * t.sz)).take (i.toNat * t.sz) := by
        rw [List.take_take, Nat.min_eq_left (Nat.mul_le_mul_right _ hle)]
      rw [this, k8]
  let obj' := setE obj [(nid, .row e t (xs.take i.toNat)), (oo, .gone n)]
  let ρ' : Nat → Value := fun k => if k = nid then .slice A i.toNat c else ρ k
  let β' : Nat → List Nat := fun k => if k = nid then β oo else if k = oo then [] else β k
  have o1 : obj' nid = .row e t (xs.take i.toNat) := by simp [obj', setE, setO]
  have o2 : obj' oo = .gone n := by simp [obj', setE, setO, hne]
  have o3 : ∀ k, k ≠ nid → k ≠ oo → obj' k = obj k := fun k h1 h2 => by simp [obj', setE, setO, h1, h2]
  have hlo : (obj oo).len = some n := by rw [hob, hn]; rfl
  have hlo' : (obj oo).len ≠ none := by rw [hlo]; simp
  have hsrc : ∀ k b, (obj' k).len ≠ none → b ∈ β' k → ∃ k', (obj k').len ≠ none ∧ b ∈ β k' ∧ ((k = nid ∧ k' = oo) ∨ (k ≠ nid ∧ k ≠ oo ∧ k' = k)) := by
    intro k b hk hb
    by_cases e1 : k = nid
    · subst e1; simp only [β', if_true] at hb; exact ⟨oo, hlo', hb, .inl ⟨rfl, rfl⟩⟩
    · by_cases e2 : k = oo
      · subst e2; simp only [β', if_neg e1, if_true] at hb; simp at hb
      · simp only [β', if_neg e1, if_neg e2] at hb
        rw [o3 k e1 e2] at hk
        exact ⟨k, hk, hb, .inr ⟨e1, e2, rfl⟩⟩
  have hnew := h.relabel (obj' := obj') (ρ' := ρ') (β' := β') (fun k m hk => ?_) (fun k b hk hb => by obtain ⟨k', g1, g2, _⟩ := hsrc k b hk hb; exact ⟨k', g1, g2⟩) (fun hrep k => ?_) (fun k k' b hk hk' hb hb' => ?_) (fun k hk => ?_)
  · refine ⟨.value (.slice A i.toNat c), W, ρ', β', ?_, .inr ⟨_, rfl, ?_⟩, hnew.2⟩
    · rw [hx, hu, hA, run_v hrun]; simp
    · refine .own (m := i.toNat) ?_ (Nat.le_refl _) ⟨A, c, rfl, by omega, fun h => hA2 (by omega)⟩ (fun _ => by simp [ρ'])
      show (obj' nid).len = _
      rw [o1]; simp [AO.len]; omega
  · have e1 : k ≠ nid := fun e => by subst e; rw [hd] at hk; cases hk
    by_cases e2 : k = oo
    · subst e2; rw [o2]; rw [hlo] at hk; exact ⟨hk, by simp [ρ', e1]⟩
    · rw [o3 k e1 e2]; exact ⟨hk, by simp [ρ', e1]⟩
  · by_cases e1 : k = nid
    · subst e1
      rw [o1]
      have hb : β' k = (ρ' k).ownBlock.toList := by
        simp only [β', ρ', if_true, g2, hA]; cases A <;> rfl
      have hr' : ρ' k = .slice A i.toNat c := by simp [ρ']
      rw [hb, hr']
      refine (ownL_flat hf).2 ⟨?_, rfl⟩
      have e3 : (xs.take i.toNat).length = i.toNat := by simp; omega
      rw [e3]; exact hrow
    · by_cases e2 : k = oo
      · subst e2
        rw [o2]
        show β' k = []
        simp [β', e1]
      · have hb : β' k = β k := by simp [β', e1, e2]
        have hr' : ρ' k = ρ k := by simp [ρ', e1]
        rw [o3 k e1 e2, hb, hr']
        exact AO.own_other (C := cxOf obj W ρ β) rfl hrep (h.objs k)
  · obtain ⟨j, g1, g2, g3⟩ := hsrc k b hk hb
    obtain ⟨j', g1', g2', g3'⟩ := hsrc k' b hk' hb'
    have := h.apart j j' b g1 g1' g2 g2'
    subst this
    rcases g3 with ⟨rfl, rfl⟩ | ⟨e1, e2, rfl⟩ <;> rcases g3' with ⟨rfl, e3⟩ | ⟨e3, e4, rfl⟩
    · rfl
    · exact absurd rfl e4
    · exact absurd e3 e2
    · rfl
  · by_cases e1 : k = nid
    · subst e1; simp only [β', if_true]; exact h.nodup oo hlo'
    · by_cases e2 : k = oo
      · subst e2; simp [β', e1]
      · simp only [β', if_neg e1, if_neg e2]
        rw [o3 k e1 e2] at hk
        exact h.nodup k hk
end
section
variable {P : Program} {Θ : TypeId → Option TI} {w0 : World} {get : Nat → Option AV} {obj : Nat → AO} {a : Act} {W : World} {ρ : Nat → Value} {β : Nat → List Nat}
theorem exec_append2 {o : Oper} {cl : Call} (ho : o.op = .call cl) {s x : Operand} {T T' : TypeId} (hcal : cl.callee = .builtin .append) (hargs : cl.args.toList = [s, x]) (htys : cl.argTypes.toList = [T, T']) (w : World) : (execOp a.eval o).run P w = (do pure (Next.value (← Builtin.append_ #[T, T'] o.type #[a.eval s, a.eval x])) : Sem Next).run P w := by
  have ha : cl.args = #[s, x] := by rw [← Array.toList_inj]; simpa using hargs
  have ht : cl.argTypes = #[T, T'] := by rw [← Array.toList_inj]; simpa using htys
  unfold execOp; rw [ho]
  simp only [resolve, hcal, ha, ht, Sem.run_bind, Sem.run_pure, Result.andThen_ok]
  simp [invoke, builtin]
/-- zeros behind nil -/
theorem sound_zeros (hΘ : ∀ t ti, Θ t = some ti → ti.ok P t) (h : RelW w0 get obj a W ρ β) {o : Oper} {cl : Call} (ho : o.op = .call cl) {s x : Operand} {T T' : TypeId} (hcal : cl.callee = .builtin .append) (hargs : cl.args.toList = [s, x]) (htys : cl.argTypes.toList = [T, T']) {ti ti' : TI} (e0 : Θ T = some ti) (e1 : Θ T' = some ti') {kn : IntKind} (hik : ti'.ik = some kn) {e : TypeId} {y : Ty} {b : Nat} (hel : ti.el = some (e, y, b)) (hb : b ≤ 1000) (hs : a.eval s = .slice none 0 0) {k1 : IntKind} {i : Int} (hx : a.eval x = .int k1 i) (h0 : 0 < i) (h1 : i ≤ 100000000) {nid : Nat} (hd : obj nid = .dead) :
    MemOut P w0 get obj a W o (.own nid i.toNat) [(nid, .row e y (List.replicate i.toNat y.dflt))] := by
  obtain ⟨hu, i', z, hi', hz, hsz, hbb, hzs, h00, hdf⟩ := (hΘ _ _ e0).el e y b hel
  obtain ⟨_, hu'⟩ := (hΘ _ _ e1).ik kn hik
  have hki : (i.toNat : Int) = i := by omega
  have hbytes : i.toNat * b ≤ 100000000 * 1000 := Nat.mul_le_mul (by omega) hb
  have hrun := Lib.run_append_grow_zeros (P := P) W T T' o.type e i' z k1 kn hu hu' hi' hz none 0 0 [] (run_firstCells_none W.drew i'.size 0 0 0) i.toNat (by omega) (by omega) (by omega) (by omega) (by rw [hbb]; omega) (growslice_fits (by omega) (by rw [hbb, Nat.zero_add]; omega))
  rw [Nat.zero_add, hki] at hrun
  have hfl := made_flat z.cells y.sz i.toNat hzs h00
  have hzc : (Builtin.zeroCells z.cells i.toNat) = madeCells z.cells (i.toNat * y.sz) := by unfold Builtin.zeroCells madeCells; rw [hzs]
  have hge := grownCap_ge W i.toNat 0 e
  have hcm := grownCap_le_maxLen W i.toNat 0 e (by unfold maxLen; omega)
  generalize grownCap W i.toNat 0 e = G at hrun hge hcm
  generalize hcells : (([] : List Value).toArray ++ Builtin.zeroCells z.cells i.toNat ++ Builtin.zeroCells z.cells (G - i.toNat)) = cur at hrun
  have hmade : (madeCells z.cells (i.toNat * y.sz)).toList.length = i.toNat * y.sz := by simp [madeCells]
  have hcsz : cur.size = G * y.sz := by
    rw [← hcells]
    simp only [Array.size_append, List.size_toArray, List.length_nil, size_zeroCells, hzs, Nat.zero_add, ← Nat.add_mul]
    congr 1; omega
  have hctake : cur.toList.take (i.toNat * y.sz) = (List.replicate i.toNat z.cells.toList).flatten := by
    rw [← hfl, ← hcells, hzc]
    have e1 : (([] : List Value).toArray ++ madeCells z.cells (i.toNat * y.sz) ++ Builtin.zeroCells z.cells (G - i.toNat)).toList = (madeCells z.cells (i.toNat * y.sz)).toList ++ (Builtin.zeroCells z.cells (G - i.toNat)).toList := by simp
    rw [e1]
    exact List.take_left' hmade
  have hrow : (W.drew.alloc (.cells cur e)).ownsRow W.heap.size e y.sz (.slice (some ⟨W.heap.size, 0, none⟩) i.toNat G) i.toNat (List.replicate i.toNat z.cells.toList).flatten := by
    refine ⟨by rw [← hfl, hmade], .inr ⟨W.heap.size, G, cur, rfl, Nat.le_refl _, heap_alloc_new W.drew _, hge, hcm, hcsz, ?_⟩⟩
    exact hctake
  obtain ⟨ρ', β', e2, hle, h2⟩ := h.new1 (len_dead hd) (x := .row e y (List.replicate i.toNat y.dflt)) (W' := W.drew.alloc (.cells cur e)) (v := .slice (some ⟨W.heap.size, 0, none⟩) i.toNat G) (bs := [W.heap.size]) ((Below.drew (Below.refl _ _)).alloc (by simp) _) (by simp [AO.len])
    (fun C' hle hW => by
      refine ⟨List.replicate i.toNat z.cells.toList, List.replicate i.toNat [], by simp, by simp, fun k x u bb hx hu hb => ?_, ?_, by simp [Value.ownBlock]⟩
      · rw [List.getElem?_replicate] at hx hu hb
        split at hx
        · rename_i hk
          rw [if_pos hk] at hu hb
          simp only [Option.some.injEq] at hx hu hb
          subst hx hu hb
          exact hdf _ _
        · cases hx
      · rw [hW, List.length_replicate]; exact hrow) (by simp) (fun b hb => by simp at hb; subst hb; simp)
  refine ⟨.value (.slice (some ⟨W.heap.size, 0, none⟩) i.toNat G), _, ρ', β', ?_, .inr ⟨_, rfl, ?_⟩, h2⟩
  · rw [exec_append2 ho hcal hargs htys, hs, hx]
    exact run_v hrun
  · refine .own (m := i.toNat) ?_ (Nat.le_refl _) ⟨_, _, rfl, hge, fun _ => ⟨_, rfl⟩⟩ (fun _ => e2.symm)
    show (setO obj nid _ nid).len = _
    rw [setO_same]; simp [AO.len]
theorem sound_capnil (hΘ : ∀ t ti, Θ t = some ti → ti.ok P t) (h : RelW w0 get obj a W ρ β) {o : Oper} {cl : Call} (ho : o.op = .call cl) {s : Operand} {T : TypeId} (hcal : cl.callee = .builtin .cap) (hargs : cl.args.toList = [s]) (htys : cl.argTypes.toList = [T]) {ti : TI} (e0 : Θ T = some ti) {e : TypeId} {y : Ty} {b : Nat} (hel : ti.el = some (e, y, b)) (hs : a.eval s = .slice none 0 0) :
    MemOut P w0 get obj a W o (.lit (.int .i64 0)) [] := by
  obtain ⟨hu, _⟩ := (hΘ _ _ e0).el e y b hel
  have ha : cl.args = #[s] := by rw [← Array.toList_inj]; simpa using hargs
  have ht : cl.argTypes = #[T] := by rw [← Array.toList_inj]; simpa using htys
  refine ⟨.value (.int .i64 0), W, ρ, β, ?_, .inr ⟨_, rfl, .lit _⟩, h⟩
  unfold execOp; rw [ho]
  simp [resolve, hcal, ha, ht, invoke, builtin, Builtin.cap_, hs, run_underlying hu, goInt]
/-- cells that read as a datum in blocks that nobody writes -/
def lrI : List AV → Option Int
  | [.lit (.int .i64 n)] => some n
  | _ => none
def lrB : List AV → Option Bool
  | [.lit (.bool b)] => some b
  | _ => none
def lrS : List AV → Option ByteArray
  | [.lit (.string s)] => some s
  | _ => none
def lrL (t : Ty) : List AV → Option (List t.den)
  | [.sl t' xs] => if e : t' = t then some (e ▸ xs) else none
  | _ => none
def readT : (t : Ty) → List AV → Option t.den
  | .int, cs => lrI cs
  | .bool, cs => lrB cs
  | .str, cs => lrS cs
  | .pair a b, cs => match readT a (cs.take a.sz), readT b (cs.drop a.sz) with
    | some x, some y => some (x, y)
    | _, _ => none
  | .list t, cs => lrL t cs
theorem readT_sound {C : Cx} : ∀ (t : Ty) (cs : List AV) {d : t.den} {us : List Value}, readT t cs = some d → Reps C cs us → Reps C (t.cells d) us
  | .int, cs, d, us, h, hr => by
    simp only [readT] at h
    unfold lrI at h
    split at h
    · cases h; exact hr
    · cases h
  | .bool, cs, d, us, h, hr => by
    simp only [readT] at h
    unfold lrB at h
    split at h
    · cases h; exact hr
    · cases h
  | .str, cs, d, us, h, hr => by
    simp only [readT] at h
    unfold lrS at h
    split at h
    · cases h; exact hr
    · cases h
  | .pair a b, cs, d, us, h, hr => by
    simp only [readT] at h
    split at h
    · rename_i x y e1 e2
      cases h
      have h1 := readT_sound a _ e1 (hr.take a.sz)
      have h2 := readT_sound b _ e2 (hr.drop a.sz)
      have := h1.append h2
      rwa [List.take_append_drop] at this
    · cases h
  | .list t, cs, d, us, h, hr => by
    simp only [readT] at h
    unfold lrL at h
    split at h
    · rename_i t' xs
      split at h
      · rename_i e
        subst e
        cases h
        exact hr
      · cases h
    · cases h
theorem sound_append_lst (hΘ : ∀ t ti, Θ t = some ti → ti.ok P t) (h : RelW w0 get obj a W ρ β) {o : Oper} {cl : Call} (ho : o.op = .call cl) {s x : Operand} {T : TypeId} (hcal : cl.callee = .builtin .append) (hargs : cl.args.toList = [s, x]) (htys : cl.argTypes.toList = [T, T]) {ti : TI} (e0 : Θ T = some ti) {e : TypeId} {y t : Ty} {b : Nat} (hel : ti.el = some (e, y, b)) (hyt : y.sz = t.sz) (hb : b ≤ 1000) {oo n : Nat} (hs : Rep (cxOf obj W ρ β) (.own oo n) (a.eval s)) {xs : List t.den} (hob : obj oo = .lst e t xs) {m : Nat} {em : TypeId} {row : List AV} (hm : obj m = .mix em t.sz [row]) (hx : Rep (cxOf obj W ρ β) (.own m 1) (a.eval x)) (hcell : row.all AV.isCell = true) {z : t.den} (hrd : readT t row = some z) (hn : n = xs.length) (hbig : xs.length + 1 ≤ 1000000000) :
    MemOut P w0 get obj a W o (.own oo (xs ++ [z]).length) [(oo, .lst e t (xs ++ [z]))] := by
  obtain ⟨hu, i', zz, hi', hz, hsi, hbb, hzs, h00, hdf⟩ := (hΘ _ _ e0).el e y b hel
  have hobj := h.objs oo
  rw [hob] at hobj
  obtain ⟨vs, hrow0, hrs, hbs⟩ := hobj
  have hlen : (obj oo).len = some xs.length := by rw [hob]; rfl
  have hln : (obj oo).len ≠ none := by rw [hlen]; simp
  obtain ⟨A, cp, us, g1, g2, g3⟩ := mix_src h hm hx
  have hv : a.eval s = ρ oo := by
    generalize hu' : a.eval s = u at hs
    cases hs with
    | own f1 f2 f3 f4 =>
      refine f4 ?_
      have : (obj oo).len = some _ := f1
      rw [hlen] at this; injection this with this; omega
  obtain ⟨v', w', f1, f2, f3, f4, f5⟩ := run_append_full (P := P) W w0.heap.size T o.type e i' zz t.sz b hu hi' hz (by omega) hbb (by omega) (by omega) (ρ oo) xs.length _ hrow0 _ A 1 cp _ g2 (reps_cell g3 hcell) (by unfold maxLen; omega) (by
    have : (xs.length + 1) * b ≤ 1000000000 * 1000 := Nat.mul_le_mul hbig hb
    omega) h.below.size
  have hz' := readT_sound t row hrd g3
  have hw := h.write (by rw [hob]; rfl) (o := oo) (W' := w') (obj' := setO obj oo (.lst e t (xs ++ [z]))) (ρ' := fun k => if k = oo then v' else ρ k) (β' := fun k => if k = oo then v'.ownBlock.toList else β k) (m := xs.length) (m' := xs.length + 1) hlen (by rw [setO_same]; simp [AO.len]) (by omega) (fun e => by omega) (fun o' ho' => ⟨setO_other ho', by simp [ho'], by simp [ho']⟩) f3 (fun bk hbk => by
      simp only [if_true, Option.mem_toList, Option.mem_def] at hbk
      refine ⟨?_, f2.lt bk hbk⟩
      rcases f4 with f4 | f4
      · rw [f4] at hbk; left; rw [hbs, hbk]; simp
      · rw [f4] at hbk; right; injection hbk with hbk; omega) (by
      simp only [if_true]; cases v'.ownBlock <;> simp) (fun hk => by
      rw [setO_same]
      simp only [if_true]
      refine ⟨vs ++ us, by simpa using f2, ?_, rfl⟩
      rw [List.map_append, List.flatten_append]
      refine (hrs.mono fun c u _ => hk c u).append ?_
      simpa using hz'.mono fun c u _ => hk c u)
  refine ⟨.value v', w', _, _, ?_, .inr ⟨v', rfl, ?_⟩, hw.2⟩
  · rw [exec_append ho hcal hargs htys, hv, g1]
    exact run_v f1
  · refine .own (m := (xs ++ [z]).length) ?_ (Nat.le_refl _) (by simpa using own_hs f2) (fun _ => by simp)
    show (setO obj oo (.lst e t (xs ++ [z])) oo).len = _
    rw [setO_same]; rfl
/-- operations on deep rows, and a few more -/
def memOp2 (Θ : TypeId → Option TI) (ev : Operand → Option AV) (h : Nat → AO) (nid : Nat) : Op → MR
  | .load T p => match Θ T, ev p with
    | some ti, some (.elt o n sz k off) => match h o with
      | .hol _ t pre cs suf => if t.sz = sz then (loadAV ti (cs.drop off)).map fun x => (n = pre.length + 1 + suf.length ∧ k = pre.length, x, [], [o]) else none
      | _ => none
    | _, _ => none
  | .store T p y => match Θ T, ev p, (ev y).bind AV.cells with
    | some ti, some (.elt o n sz k off), some vs => match h o with
      | .row e t xs => if t.flat = false ∧ t.sz = sz ∧ off = 0 ∧ vs.length = sz ∧ vs.length = ti.zero.length ∧ vs.all AV.isCell = true then
          (match absorb h t vs with
          | some (c, z, l) => if (o :: l.map (·.1)).Nodup then some (n = xs.length ∧ k < n ∧ c, .any, (o, .row e t (xs.set k z)) :: gones l, o :: l.map (·.1)) else none
          | none => none) else none
      | _ => none
    | _, _, _ => none
  | .slice T x none (some hi) none => match Θ T, ev x, ev hi with
    | some ti, some (.own o n), some (.lit (.int _ i)) => match ti.el, h o, h nid with
      | some _, .row e t xs, .dead => if t.flat = true then some (n = xs.length ∧ 0 ≤ i ∧ i ≤ n, .own nid i.toNat, [(nid, .row e t (xs.take i.toNat)), (o, .gone n)], [nid, o]) else none
      | _, _, _ => none
    | some ti, some (.lit (.slice none 0 0)), some (.lit (.int _ i)) => if ti.el.isSome = true then some (i = 0, .lit (.slice none 0 0), [], []) else none
    | _, _, _ => none
  | .call c => match c.callee, c.args.toList, c.argTypes.toList with
    | .builtin .append, [s, x], [T, T'] => if T' = T then
      (match Θ T, ev s, ev x with
      | some ti, some (.own o n), some (.own m 1) => match ti.el, h o, h m with
        | some (e', y, b), .row e t xs, .mix _ sz [row] => if t.flat = false ∧ b ≤ 1000 ∧ e' = e ∧ y.sz = t.sz ∧ sz = t.sz ∧ row.length = t.sz ∧ row.all AV.isCell = true then
            (match absorb h t row with
            | some (c, z, l) => if (o :: l.map (·.1)).Nodup then some (n = xs.length ∧ xs.length + 1 ≤ 1000000000 ∧ c, .own o (xs ++ [z]).length, (o, .row e t (xs ++ [z])) :: gones l, m :: o :: l.map (·.1)) else none
            | none => none) else none
        | some (e', y, b), .lst e t xs, .mix _ sz [row] => if b ≤ 1000 ∧ e' = e ∧ y.sz = t.sz ∧ sz = t.sz ∧ row.all AV.isCell = true then
            (match readT t row with
            | some z => some (n = xs.length ∧ xs.length + 1 ≤ 1000000000, .own o (xs ++ [z]).length, [(o, .lst e t (xs ++ [z]))], [m, o])
            | none => none) else none
        | _, _, _ => none
      | some ti, some (.lit (.slice none 0 0)), some (.own m 1) => match ti.el, h nid, h m with
        | some (e, y, b), .dead, .mix _ sz [row] => if y.flat = false ∧ b ≤ 1000 ∧ sz = y.sz ∧ row.length = y.sz ∧ row.all AV.isCell = true then
            (match absorb h y row with
            | some (c, z, l) => if (nid :: l.map (·.1)).Nodup then some (c, .own nid 1, (nid, .row e y [z]) :: gones l, m :: nid :: l.map (·.1)) else none
            | none => none) else none
        | _, _, _ => none
      | _, _, _ => none) else
      (match Θ T, Θ T', ev s, ev x, h nid with
      | some ti, some ti', some (.lit (.slice none 0 0)), some (.lit (.int _ i)), .dead => match ti.el, ti'.ik with
        | some (e, y, b), some _ => if b ≤ 1000 then some (0 < i ∧ i ≤ 100000000, .own nid i.toNat, [(nid, .row e y (List.replicate i.toNat y.dflt))], [nid]) else none
        | _, _ => none
      | _, _, _, _, _ => none)
    | .builtin .cap, [s], [T] => match Θ T, ev s with
      | some ti, some (.lit (.slice none 0 0)) => if ti.el.isSome = true then some (True, .lit (.int .i64 0), [], []) else none
      | _, _ => none
    | _, _, _ => none
  | _ => none
/-- loads and stores in reach -/
def memOp3 (Θ : TypeId → Option TI) (ev : Operand → Option AV) (h : Nat → AO) : Op → MR
  | .store T p y => match Θ T, ev p, (ev y).bind AV.cells with
    | some ti, some (.elt o n sz k off), some vs => match h o with
      | .hol e t pre cs suf => if t.sz = sz ∧ vs.length = ti.zero.length ∧ off + vs.length ≤ sz ∧ vs.all AV.isCell = true then some (n = pre.length + 1 + suf.length ∧ k = pre.length, .any, [(o, .hol e t pre (cs.take off ++ vs ++ cs.drop (off + vs.length)) suf)], [o]) else none
      | _ => none
    | _, _, _ => none
  | _ => none
theorem mem2_sound (hΘ : ∀ t ti, Θ t = some ti → ti.ok P t) (h : RelW w0 get obj a W ρ β) {ev : Operand → Option AV} (hev : ∀ x v, ev x = some v → Rep (cxOf obj W ρ β) v (a.eval x)) (o : Oper) {nid : Nat} {c : Prop} {x : AV} {eff : List (Nat × AO)} {tch : List Nat} (hm : memOp2 Θ ev obj nid o.op = some (c, x, eff, tch)) (hc : c) : MemOut P w0 get obj a W o x eff := by
  unfold memOp2 at hm
  split at hm
  · rename_i T p ho
    split at hm
    · rename_i ti b n sz k off e0 e1
      split at hm
      · rename_i e t pre cs suf hob
        split at hm
        · rename_i hsz
          subst hsz
          cases hl : loadAV ti (cs.drop off) with
          | none => rw [hl] at hm; cases hm
          | some v => rw [hl] at hm; cases hm; exact sound_load_hol hΘ h ho e0 (hev _ _ e1) hob hc.1 hc.2 hl
        · cases hm
      · cases hm
    · cases hm
  · rename_i T p y ho
    split at hm
    · rename_i ti b n sz k off vs e0 e1 e2
      rw [Option.bind_eq_some_iff] at e2
      obtain ⟨v, g1, g2⟩ := e2
      split at hm
      · rename_i e t xs hob
        split at hm
        · rename_i hcond
          obtain ⟨hf, rfl, rfl, hc1, hc2, hc3⟩ := hcond
          split at hm
          · rename_i c' z l hab
            split at hm
            · rename_i hnd
              cases hm
              exact sound_store_deep hΘ h ho e0 (hev _ _ e1) hob hc.1 hc.2.1 (hev _ _ g1) g2 hc1 hc2 hc3 hab hc.2.2 hnd
            · cases hm
          · cases hm
        · cases hm
      · cases hm
    · cases hm
  · rename_i T x' hi ho
    split at hm
    · rename_i ti oo n kd i e0 e1 e2
      split at hm
      · rename_i q e t xs hel hob hd
        split at hm
        · rename_i hf
          cases hm
          obtain ⟨e', y, b⟩ := q
          exact sound_cut hΘ h ho e0 hel (hev _ _ e1) (hev _ _ e2).lit_eq hob hf hc.1 hc.2.1 hc.2.2 hd
        · cases hm
      · cases hm
    · rename_i ti kd i e0 e1 e2
      split at hm
      · rename_i hel
        cases hm
        subst hc
        obtain ⟨⟨e', y, b⟩, hel⟩ := Option.isSome_iff_exists.1 hel
        have hx : execOp a.eval o = (do pure (.value (← Instr.sliceAt T (a.eval x') none (some (a.eval hi)) none))) := by unfold execOp; rw [ho]; rfl
        have hrun := run_sliceAt_any (P := P) (hΘ _ _ e0) hel none 0 0 none (some (a.eval hi)) 0 0 (.inl ⟨rfl, rfl⟩) (.inr ⟨kd, 0, by rw [(hev _ _ e2).lit_eq], by omega, rfl⟩) (by omega) (by omega) W
        refine ⟨.value (.slice none 0 0), W, ρ, β, ?_, .inr ⟨_, rfl, .lit _⟩, h⟩
        rw [hx, (hev _ _ e1).lit_eq]
        exact run_v hrun
      · cases hm
    · cases hm
  · rename_i cl ho
    split at hm
    · rename_i s x' T T' hcal hargs htys
      split at hm
      · rename_i hTT
        subst hTT
        split at hm
        · rename_i ti oo n m e0 e1 e2
          split at hm
          · rename_i e' y b e t xs em sz row hel hob hmix
            split at hm
            · rename_i hcond
              obtain ⟨hf, hb, rfl, hyt, rfl, hrl, hcell⟩ := hcond
              split at hm
              · rename_i c' z l hab
                split at hm
                · rename_i hnd
                  cases hm
                  exact sound_append_deep hΘ h ho hcal hargs htys e0 hel hyt hb (hev _ _ e1) hob hmix (hev _ _ e2) hrl hcell hab hc.2.2 hnd hc.1 hc.2.1
                · cases hm
              · cases hm
            · cases hm
          · rename_i e' y b e t xs em sz row hel hob hmix
            split at hm
            · rename_i hcond
              obtain ⟨hb, rfl, hyt, rfl, hcell⟩ := hcond
              split at hm
              · rename_i z hrd
                cases hm
                exact sound_append_lst hΘ h ho hcal hargs htys e0 hel hyt hb (hev _ _ e1) hob hmix (hev _ _ e2) hcell hrd hc.1 hc.2
              · cases hm
            · cases hm
          · cases hm
        · rename_i ti m e0 e1 e2
          split at hm
          · rename_i e y b em sz row hel hd hmix
            split at hm
            · rename_i hcond
              obtain ⟨hf, hb, rfl, hrl, hcell⟩ := hcond
              split at hm
              · rename_i c' z l hab
                split at hm
                · rename_i hnd
                  cases hm
                  exact sound_append_deep_nil hΘ h ho hcal hargs htys e0 hel hb (hev _ _ e1).lit_eq hmix (hev _ _ e2) hrl hcell hab hc hd hnd
                · cases hm
              · cases hm
            · cases hm
          · cases hm
        · cases hm
      · split at hm
        · rename_i ti ti' kd i e0 e1 e2 e3 hd
          split at hm
          · rename_i e y b kn hel hik
            split at hm
            · rename_i hb
              cases hm
              exact sound_zeros hΘ h ho hcal hargs htys e0 e1 hik hel hb (hev _ _ e2).lit_eq (hev _ _ e3).lit_eq hc.1 hc.2 hd
            · cases hm
          · cases hm
        · cases hm
    · rename_i s T hcal hargs htys
      split at hm
      · rename_i ti e0 e1
        split at hm
        · rename_i hel
          cases hm
          obtain ⟨⟨e, y, b⟩, hel⟩ := Option.isSome_iff_exists.1 hel
          exact sound_capnil hΘ h ho hcal hargs htys e0 hel (hev _ _ e1).lit_eq
        · cases hm
      · cases hm
    · cases hm
  · cases hm
theorem mem3_sound (hΘ : ∀ t ti, Θ t = some ti → ti.ok P t) (h : RelW w0 get obj a W ρ β) {ev : Operand → Option AV} (hev : ∀ x v, ev x = some v → Rep (cxOf obj W ρ β) v (a.eval x)) (o : Oper) {c : Prop} {x : AV} {eff : List (Nat × AO)} {tch : List Nat} (hm : memOp3 Θ ev obj o.op = some (c, x, eff, tch)) (hc : c) : MemOut P w0 get obj a W o x eff := by
  unfold memOp3 at hm
  split at hm
  · rename_i T p y ho
    split at hm
    · rename_i ti b n sz k off vs e0 e1 e2
      rw [Option.bind_eq_some_iff] at e2
      obtain ⟨v, g1, g2⟩ := e2
      split at hm
      · rename_i e t pre cs suf hob
        split at hm
        · rename_i hcond
          obtain ⟨rfl, hc1, hc2, hc3⟩ := hcond
          cases hm
          obtain ⟨W', s1, s2⟩ := sound_store_hol hΘ h ho e0 (hev _ _ e1) hob hc.1 hc.2 (hev _ _ g1) g2 hc1 hc2 hc3
          exact ⟨.skip, W', ρ, β, s1, .inl ⟨rfl, rfl⟩, s2⟩
        · cases hm
      · cases hm
    · cases hm
  · cases hm
end
section
variable {Θ : TypeId → Option TI} {ev ev' : Operand → Option AV} {h h' : Nat → AO}
theorem memOp2_ev (nid : Nat) : ∀ (op : Op), (∀ x ∈ op.operands.toList, ev x = ev' x) → memOp2 Θ ev h nid op = memOp2 Θ ev' h nid op := by
  intro op hx
  cases op with
  | load T x => simp only [memOp2]; rw [hx x (by simp [Op.operands])]
  | store T p y => simp only [memOp2]; rw [hx p (by simp [Op.operands]), hx y (by simp [Op.operands])]
  | slice T x lo hi mx =>
    cases lo with
    | some _ => rfl
    | none => cases hi with
      | none => rfl
      | some z => cases mx with
        | some _ => rfl
        | none => simp only [memOp2]; rw [hx x (by simp [Op.operands]), hx z (by simp [Op.operands])]
  | call c =>
    simp only [memOp2]
    split
    · rename_i s x T T' e1 e2 e3
      rw [hx s (by simp only [Op.operands, Call.operands, Array.toList_append, List.mem_append, e2]; exact .inr (by simp)), hx x (by simp only [Op.operands, Call.operands, Array.toList_append, List.mem_append, e2]; exact .inr (by simp))]
    · rename_i s T e1 e2 e3
      rw [hx s (by simp only [Op.operands, Call.operands, Array.toList_append, List.mem_append, e2]; exact .inr (by simp))]
    · rfl
  | _ => rfl
theorem memOp3_ev : ∀ (op : Op), (∀ x ∈ op.operands.toList, ev x = ev' x) → memOp3 Θ ev h op = memOp3 Θ ev' h op := by
  intro op hx
  cases op with
  | store T p y => simp only [memOp3]; rw [hx p (by simp [Op.operands]), hx y (by simp [Op.operands])]
  | _ => rfl
theorem memOp3_congr {op : Op} {r : Prop × AV × List (Nat × AO) × List Nat} (hs : memOp3 Θ ev h op = some r) (hh : ∀ id ∈ r.2.2.2, h id = h' id) : memOp3 Θ ev h' op = some r := by
  cases op with
  | store T p y =>
    simp only [memOp3] at hs ⊢
    split at hs
    · rename_i ti b n sz k off vs e0 e1 e2
      try simp only []
      split at hs
      · rename_i e t pre cs suf hob
        split at hs
        · rename_i hc
          cases hs; rw [← hh b (by simp), hob]; (try simp only []); rw [if_pos hc]
        · cases hs
      · cases hs
    · cases hs
  | _ => simp only [memOp3] at hs; cases hs
theorem memOp2_congr {nid : Nat} {op : Op} {r : Prop × AV × List (Nat × AO) × List Nat} (hs : memOp2 Θ ev h nid op = some r) (hh : ∀ id ∈ r.2.2.2, h id = h' id) : memOp2 Θ ev h' nid op = some r := by
  cases op with
  | load T p =>
    simp only [memOp2] at hs ⊢
    split at hs
    · rename_i ti b n sz k off e0 e1
      try simp only []
      split at hs
      · rename_i e t pre cs suf hob
        split at hs
        · rename_i hf
          cases hl : loadAV ti (cs.drop off) with
          | none => rw [hl] at hs; cases hs
          | some v => rw [hl] at hs; cases hs; rw [← hh b (by simp), hob]; simp only [hl]; rw [if_pos hf]; rfl
        · cases hs
      · cases hs
    · cases hs
  | store T p y =>
    simp only [memOp2] at hs ⊢
    split at hs
    · rename_i ti b n sz k off vs e0 e1 e2
      try simp only []
      split at hs
      · rename_i e t xs hob
        split at hs
        · rename_i hc
          split at hs
          · rename_i c' z l hab
            split at hs
            · rename_i hnd
              cases hs
              rw [← hh b (by simp), hob]
              try simp only []
              rw [if_pos hc, absorb_congr t vs hab (fun id hid => hh id (by simp only [List.mem_cons]; exact .inr hid))]
              try simp only []
              rw [if_pos hnd]
            · cases hs
          · cases hs
        · cases hs
      · cases hs
    · cases hs
  | slice T x lo hi mx =>
    cases lo with
    | some _ => simp only [memOp2] at hs; cases hs
    | none => cases hi with
      | none => simp only [memOp2] at hs; cases hs
      | some z => cases mx with
        | some _ => simp only [memOp2] at hs; cases hs
        | none =>
          simp only [memOp2] at hs ⊢
          split at hs
          · rename_i ti oo n kd i e0 e1 e2
            try simp only []
            split at hs
            · rename_i q e t xs hel hob hd
              split at hs
              · rename_i hf
                cases hs
                rw [← hh oo (by simp), ← hh nid (by simp), hob, hd, hel]
                try simp only []
                rw [if_pos hf]
              · cases hs
            · cases hs
          · exact hs
          · cases hs
  | call c =>
    simp only [memOp2] at hs ⊢
    split at hs
    · rename_i s x T T' e1 e2 e3
      try simp only []
      split at hs
      · rename_i hT
        rw [if_pos hT]
        split at hs
        · rename_i ti o n m e4 e5 e6
          split at hs
          · rename_i e' y b e t xs em sz row hel hob hmix
            split at hs
            · rename_i hc
              split at hs
              · rename_i c' z l hab
                split at hs
                · rename_i hnd
                  cases hs
                  try simp only []
                  rw [← hh o (by simp), ← hh m (by simp), hob, hmix, hel]
                  try simp only []
                  rw [if_pos hc, absorb_congr t row hab (fun id hid => hh id (by simp only [List.mem_cons]; exact .inr (.inr hid)))]
                  try simp only []
                  rw [if_pos hnd]
                · cases hs
              · cases hs
            · cases hs
          · rename_i e' y b e t xs em sz row hel hob hmix
            split at hs
            · rename_i hc
              split at hs
              · rename_i z hrd
                cases hs
                try simp only []
                rw [← hh o (by simp), ← hh m (by simp), hob, hmix, hel]
                try simp only []
                rw [if_pos hc, hrd]
              · cases hs
            · cases hs
          · cases hs
        · rename_i ti m e4 e5 e6
          split at hs
          · rename_i e y b em sz row hel hd hmix
            split at hs
            · rename_i hc
              split at hs
              · rename_i c' z l hab
                split at hs
                · rename_i hnd
                  cases hs
                  try simp only []
                  rw [← hh nid (by simp), ← hh m (by simp), hd, hmix, hel]
                  try simp only []
                  rw [if_pos hc, absorb_congr y row hab (fun id hid => hh id (by simp only [List.mem_cons]; exact .inr (.inr hid)))]
                  try simp only []
                  rw [if_pos hnd]
                · cases hs
              · cases hs
            · cases hs
          · cases hs
        · cases hs
      · rename_i hT
        rw [if_neg hT]
        split at hs
        · rename_i ti ti' kd i e4 e5 e6 e7 hd
          split at hs
          · rename_i e y b kn hel hik
            split at hs
            · rename_i hb
              cases hs
              try simp only []
              rw [← hh nid (by simp), hd, e4, e5, e6, e7]
              simp only [hel, hik]
              rw [if_pos hb]
            · cases hs
          · cases hs
        · cases hs
    · exact hs
    · cases hs
  | _ => simp only [memOp2] at hs; cases hs
end
end Go.Proofs.Ytgnnmifpfgpllaa
