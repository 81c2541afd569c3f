import Derived.Test.YtgnnmifpfgpllaaZAA
import Derived.Laws.MakeOwn
/- Abstract walks: parts 5, 6, 7, 8. -/
/- Operations that make or read own memory, on abstract states. -/
set_option linter.all false
set_option linter.unusedVariables false
set_option linter.unusedSimpArgs false
namespace Go.Proofs.Ytgnnmifpfgpllaa
open Go.RowKit
def setO (obj : Nat → AO) (o : Nat) (x : AO) : Nat → AO := fun k => if k = o then x else obj k
section
variable {P : Program} {Θ : TypeId → Option TI} {w0 : World} {get : Nat → Option AV} {obj : Nat → AO} {a : Act} {W : World} {ρ : Nat → Value} {β : Nat → List Nat}
theorem RelW.drew (h : RelW w0 get obj a W ρ β) : RelW w0 get obj a W.drew ρ β :=
  (h.news (W' := W.drew) (obj' := obj) (ρ' := ρ) (β' := β) (Below.drew (Below.refl _ _)) (fun _ _ => ⟨rfl, rfl, rfl⟩) (fun o h1 h2 => absurd h1 h2) (fun o o' b h1 h2 h3 => absurd h1 h3)).2
theorem RelW.new1 (h : RelW w0 get obj a W ρ β) {nid : Nat} (hd : (obj nid).len = none) {x : AO} {W' : World} {v : Value} {bs : List Nat} (hb : Below W.heap.size W W') (hx : x.len ≠ none)
    (hown : ∀ C', Cx.Le (cxOf obj W ρ β) C' → C'.W = W' → x.own C' W.heap.size v bs) (hnd : bs.Nodup) (hlt : ∀ b, b ∈ bs → W.heap.size ≤ b ∧ b < W'.heap.size) :
    ∃ ρ' β', ρ' nid = v ∧ Cx.Le (cxOf obj W ρ β) (cxOf (setO obj nid x) W' ρ' β') ∧ RelW w0 get (setO obj nid x) a W' ρ' β' := by
  refine ⟨fun o => if o = nid then v else ρ o, fun o => if o = nid then bs else β o, by simp, ?_⟩
  have hold : ∀ o, (obj o).len ≠ none → setO obj nid x o = obj o ∧ (if o = nid then v else ρ o) = ρ o ∧ (if o = nid then bs else β o) = β o := by
    intro o ho
    have hne : o ≠ nid := fun e => ho (by rw [e]; exact hd)
    simp [setO, hne]
  have hle : Cx.Le (cxOf obj W ρ β) (cxOf (setO obj nid x) W' (fun o => if o = nid then v else ρ o) (fun o => if o = nid then bs else β o)) := by
    refine ⟨fun b hI => ⟨Nat.lt_of_lt_of_le hI.1 hb.size, fun o ho hbo => ?_⟩, fun p hp => hb.cell hp.1, fun o n ho => ?_, fun o n ho => ?_⟩
    · by_cases e : o = nid
      · subst e
        simp only [if_true] at hbo
        have := hlt b hbo
        have := hI.1
        omega
      · simp only [e, if_false] at hbo
        simp only [setO, e, if_false] at ho
        exact hI.2 o ho hbo
    · have hne : (obj o).len ≠ none := by rw [show (obj o).len = some n from ho]; simp
      show (setO obj nid x o).len = some n
      rw [(hold o hne).1]; exact ho
    · have hne : (obj o).len ≠ none := by rw [show (obj o).len = some n from ho]; simp
      exact (hold o hne).2.1
  refine h.news hb hold (fun o h1 h2 => ?_) (fun o o' b h1 h2 h3 h4 _ _ => ?_)
  · have e : o = nid := Classical.byContradiction fun e => h2 (by simp only [setO, e, if_false]; exact h1)
    subst e
    simp only [setO, if_true]
    exact ⟨hown _ hle rfl, hnd, hlt⟩
  · have e : o = nid := Classical.byContradiction fun e => h3 (by simp only [setO, e, if_false]; exact h1)
    have e' : o' = nid := Classical.byContradiction fun e => h4 (by simp only [setO, e, if_false]; exact h2)
    rw [e, e']
/-- a new box -/
theorem RelW.newBox (h : RelW w0 get obj a W ρ β) {nid : Nat} (hd : (obj nid).len = none) {cs : List AV} {us : List Value} (e : TypeId) (hr : Reps (cxOf obj W ρ β) cs us) :
    ∃ ρ' β', Cx.Le (cxOf obj W ρ β) (cxOf (setO obj nid (.box e cs)) (W.alloc (.cells us.toArray e)) ρ' β') ∧ RelW w0 get (setO obj nid (.box e cs)) a (W.alloc (.cells us.toArray e)) ρ' β' ∧ Rep (cxOf (setO obj nid (.box e cs)) (W.alloc (.cells us.toArray e)) ρ' β') (.box nid 0) (.pointer (some ⟨W.heap.size, 0, none⟩)) := by
  have hrow := World.ownsRow_lit (base := W.heap.size) (size := us.length) (e := e) W us.toArray 1 (Nat.le_refl _) (by unfold maxLen; omega) (by simp)
  obtain ⟨ρ', β', e1, h1, h2⟩ := h.new1 hd (x := .box e cs) (W' := W.alloc (.cells us.toArray e)) (v := .slice (some ⟨W.heap.size, 0, none⟩) 1 1) (bs := [W.heap.size]) (below_new _ _) (by simp [AO.len])
    (fun C' hle hW => ⟨W.heap.size, us, rfl, by rw [hW, ← hr.1]; simpa using hrow, hr.le hle, rfl⟩) (by simp) (fun b hb => by simp at hb; subst hb; simp)
  exact ⟨ρ', β', h1, h2, .box (m := 1) (by simp [setO, AO.len]) (Nat.le_refl _) (fun _ => ⟨1, e1⟩)⟩
end
/-! data without slices -/
def Ty.flat : Ty → Bool
  | .pair a b => a.flat && b.flat
  | .list _ => false
  | _ => true
def Ty.vals : (t : Ty) → t.den → List Value
  | .int, x => [.int .i64 x]
  | .bool, x => [.bool x]
  | .str, x => [.string x]
  | .pair a b, x => a.vals x.1 ++ b.vals x.2
  | .list _, _ => []
theorem Ty.rep_flat {W : World} {I : Nat → Prop} : ∀ (t : Ty) (_ : t.flat = true) (x : t.den) (us : List Value), t.rep W I x us ↔ us = t.vals x
  | .int, _, _, _ => Iff.rfl
  | .bool, _, _, _ => Iff.rfl
  | .str, _, _, _ => Iff.rfl
  | .pair a b, h, x, us => by
    simp only [Ty.flat, Bool.and_eq_true] at h
    constructor
    · rintro ⟨u1, u2, rfl, h1, h2⟩
      rw [(Ty.rep_flat a h.1 x.1 u1).1 h1, (Ty.rep_flat b h.2 x.2 u2).1 h2]; rfl
    · rintro rfl
      exact ⟨_, _, rfl, (Ty.rep_flat a h.1 x.1 _).2 rfl, (Ty.rep_flat b h.2 x.2 _).2 rfl⟩
  | .list t, h, _, _ => by simp [Ty.flat] at h
theorem Ty.own_flat {W : World} {lo : Nat} : ∀ (t : Ty) (_ : t.flat = true) (x : t.den) (us : List Value) (bs : List Nat), t.own W lo x us bs ↔ us = t.vals x ∧ bs = []
  | .int, _, _, _, _ => Iff.rfl
  | .bool, _, _, _, _ => Iff.rfl
  | .str, _, _, _, _ => Iff.rfl
  | .pair a b, h, x, us, bs => by
    simp only [Ty.flat, Bool.and_eq_true] at h
    constructor
    · rintro ⟨u1, u2, b1, b2, rfl, rfl, h1, h2⟩
      obtain ⟨rfl, rfl⟩ := (Ty.own_flat a h.1 x.1 u1 b1).1 h1
      obtain ⟨rfl, rfl⟩ := (Ty.own_flat b h.2 x.2 u2 b2).1 h2
      exact ⟨rfl, rfl⟩
    · rintro ⟨rfl, rfl⟩
      exact ⟨_, _, _, _, rfl, rfl, (Ty.own_flat a h.1 x.1 _ []).2 ⟨rfl, rfl⟩, (Ty.own_flat b h.2 x.2 _ []).2 ⟨rfl, rfl⟩⟩
  | .list t, h, _, _, _ => by simp [Ty.flat] at h
theorem Ty.vals_len : ∀ (t : Ty) (_ : t.flat = true) (x : t.den), (t.vals x).length = t.sz
  | .int, _, _ => rfl
  | .bool, _, _ => rfl
  | .str, _, _ => rfl
  | .pair a b, h, x => by
    simp only [Ty.flat, Bool.and_eq_true] at h
    simp only [Ty.vals, List.length_append, Ty.vals_len a h.1, Ty.vals_len b h.2, Ty.sz]
  | .list t, h, _ => by simp [Ty.flat] at h
theorem Ty.vals_cell : ∀ (t : Ty) (x : t.den), ∀ u ∈ t.vals x, u.oneCell' = true
  | .int, _, u, h => by simp [Ty.vals] at h; subst h; rfl
  | .bool, _, u, h => by simp [Ty.vals] at h; subst h; rfl
  | .str, _, u, h => by simp [Ty.vals] at h; subst h; rfl
  | .pair a b, x, u, h => by
    simp only [Ty.vals, List.mem_append] at h
    rcases h with h | h
    · exact Ty.vals_cell a x.1 u h
    · exact Ty.vals_cell b x.2 u h
  | .list t, _, u, h => by simp [Ty.vals] at h
theorem ownL_flat {W : World} {lo : Nat} {e : TypeId} {t : Ty} (hf : t.flat = true) {xs : List t.den} {v : Value} {bs : List Nat} : ownL W lo e t xs v bs ↔ W.ownsRow lo e t.sz v xs.length (xs.map t.vals).flatten ∧ bs = v.ownBlock.toList := by
  constructor
  · rintro ⟨cells, bss, h1, h2, h3, h4, h5⟩
    have e1 : cells = xs.map t.vals := by
      apply List.ext_getElem (by simp [h1])
      intro k hk hk'
      simp only [List.length_map] at hk'
      have := h3 k xs[k] cells[k] (bss[k]'(by omega)) (List.getElem?_eq_getElem hk') (List.getElem?_eq_getElem hk) (List.getElem?_eq_getElem _)
      rw [((Ty.own_flat t hf _ _ _).1 this).1]; simp
    have e2 : bss.flatten = [] := by
      rw [List.flatten_eq_nil_iff]
      intro b hb
      obtain ⟨k, hk, rfl⟩ := List.getElem_of_mem hb
      have := h3 k (xs[k]'(by omega)) (cells[k]'(by omega)) bss[k] (List.getElem?_eq_getElem _) (List.getElem?_eq_getElem _) (List.getElem?_eq_getElem hk)
      exact ((Ty.own_flat t hf _ _ _).1 this).2
    rw [e1] at h4
    exact ⟨h4, by rw [h5, e2]; simp⟩
  · rintro ⟨h1, h2⟩
    refine ⟨xs.map t.vals, xs.map fun _ => [], by simp, by simp, fun k x u b hx hu hb => ?_, h1, ?_⟩
    · rw [List.getElem?_map, hx] at hu hb
      simp at hu hb
      exact (Ty.own_flat t hf _ _ _).2 ⟨hu.symm, hb⟩
    · rw [h2]
      have : (xs.map fun _ => ([] : List Nat)).flatten = [] := by rw [List.flatten_eq_nil_iff]; intro b hb; simp at hb; exact hb.2
      rw [this]; simp
/-- a datum off its cells -/
def Ty.ofC : (t : Ty) → List AV → Option t.den
  | .int, cs => match cs with
    | [.lit (.int .i64 n)] => some n
    | _ => none
  | .bool, cs => match cs with
    | [.lit (.bool b)] => some b
    | _ => none
  | .str, cs => match cs with
    | [.lit (.string s)] => some s
    | _ => none
  | .pair a b, cs => match a.ofC (cs.take a.sz), b.ofC (cs.drop a.sz) with
    | some x, some y => some (x, y)
    | _, _ => none
  | .list _, _ => none
theorem Ty.ofC_vals {C : Cx} : ∀ (t : Ty) (cs : List AV) (us : List Value) (x : t.den), t.ofC cs = some x → Reps C cs us → us = t.vals x ∧ t.flat = true
  | .int, cs, us, x, h, hr => by
    simp only [Ty.ofC] at h
    split at h
    · obtain ⟨u, us', rfl, h1, h2⟩ := hr.cons_of
      cases h
      rw [h2.nil_of, h1.lit_eq]; exact ⟨rfl, rfl⟩
    · cases h
  | .bool, cs, us, x, h, hr => by
    simp only [Ty.ofC] at h
    split at h
    · obtain ⟨u, us', rfl, h1, h2⟩ := hr.cons_of
      cases h
      rw [h2.nil_of, h1.lit_eq]; exact ⟨rfl, rfl⟩
    · cases h
  | .str, cs, us, x, h, hr => by
    simp only [Ty.ofC] at h
    split at h
    · obtain ⟨u, us', rfl, h1, h2⟩ := hr.cons_of
      cases h
      rw [h2.nil_of, h1.lit_eq]; exact ⟨rfl, rfl⟩
    · cases h
  | .pair a b, cs, us, x, h, hr => by
    simp only [Ty.ofC] at h
    split at h
    · rename_i y z e1 e2
      cases h
      obtain ⟨g1, g2⟩ := Ty.ofC_vals a _ _ _ e1 (hr.take a.sz)
      obtain ⟨g3, g4⟩ := Ty.ofC_vals b _ _ _ e2 (hr.drop a.sz)
      refine ⟨?_, by simp [Ty.flat, g2, g4]⟩
      rw [← List.take_append_drop a.sz us, g1, g3]; rfl
    · cases h
  | .list t, cs, us, x, h, hr => by simp [Ty.ofC] at h
theorem flat_cells {C : Cx} : ∀ (t : Ty) (_ : t.flat = true) (x : t.den), Reps C (t.cells x) (t.vals x)
  | .int, _, _ => .cons (.lit _) .nil
  | .bool, _, _ => .cons (.lit _) .nil
  | .str, _, _ => .cons (.lit _) .nil
  | .pair a b, h, x => by
    simp only [Ty.flat, Bool.and_eq_true] at h
    exact (flat_cells a h.1 x.1).append (flat_cells b h.2 x.2)
  | .list t, h, _ => by simp [Ty.flat] at h
theorem flat_get {t : Ty} (hf : t.flat = true) : ∀ (xs : List t.den) (k j : Nat) (hk : k < xs.length) (_ : j < t.sz), (xs.map t.vals).flatten[k * t.sz + j]? = (t.vals xs[k])[j]?
  | xs, k, j, hk, hj => by
    have := flatten_get (sz := t.sz) (xs.map t.vals) (fun r hr => by obtain ⟨x, _, rfl⟩ := List.mem_map.1 hr; exact Ty.vals_len t hf x) k j (by simpa using hk) hj
    simpa using this
/-- what a load of a type gives off the cells from its address on -/
def loadAV (ti : TI) (cs : List AV) : Option AV := if ti.agg = true then (if ti.zero.length ≤ cs.length then some (.agg (cs.take ti.zero.length)) else none) else cs.head?
section
variable {P : Program} {C : Cx}
theorem load_any {T : TypeId} {ti : TI} (hok : ti.ok P T) {cs : List AV} {us : List Value} {ad : Addr} {x : AV} (hl : loadAV ti cs = some x) (hr : Reps C cs us) (hc : ∀ (j : Nat) u, us[j]? = some u → C.W.cell? (ad.add j) = some u) :
    ∃ v, (Instr.loadAt T (.pointer (some ad))).run P C.W = .ok v C.W ∧ Rep C x v := by
  unfold loadAV at hl
  obtain ⟨i, z, hi, hz, hz1, hz2⟩ := hok.info
  split at hl
  · rename_i hag
    split at hl
    · rename_i hle
      cases hl
      refine ⟨.agg (us.take ti.zero.length).toArray, ?_, .agg (hr.take _).1 (hr.take _).2⟩
      have hload := run_loadCells_list (P := P) C.W ad (us.take ti.zero.length) (fun j v hj => hc j v (by
        rw [List.getElem?_take] at hj
        split at hj
        · exact hj
        · cases hj))
      have hlen : (us.take ti.zero.length).length = ti.zero.length := by rw [List.length_take, hr.1]; omega
      rw [hlen] at hload
      simp [Instr.loadAt, Instr.sureAddr, loadVar, hok.isAgg, hag, sizeOf, typeInfo, hi, hz2, hload]
    · cases hl
  · rename_i hag
    have hag' : ti.agg = false := by simpa using hag
    cases cs with
    | nil => cases hl
    | cons c cs =>
      simp only [List.head?_cons, Option.some.injEq] at hl
      subst hl
      obtain ⟨u, us', rfl, h1, h2⟩ := hr.cons_of
      have h0 := hc 0 u rfl
      have ha : ad.add 0 = ad := by unfold Addr.add; simp
      rw [ha] at h0
      exact ⟨u, by simp [Instr.loadAt, Instr.sureAddr, loadVar, hok.isAgg, hag', h0], h1⟩
theorem store_any {T e : TypeId} {ti : TI} (hok : ti.ok P T) {w : World} {lo sz n g cap off : Nat} {us vs : List Value} {v : Value} (h : w.ownsRow lo e sz (.slice (some ⟨g, 0, none⟩) n cap) n us) (hv : v.cells.toList = vs) (hn : vs.length = ti.zero.length) (hoff : off + vs.length ≤ us.length) (h1 : ∀ u ∈ vs, u.oneCell' = true) :
    ∃ w', (Instr.storeAt T (.pointer (some ⟨g, off, none⟩)) v).run P w = .ok () w' ∧ w'.ownsRow lo e sz (.slice (some ⟨g, 0, none⟩) n cap) n (us.take off ++ vs ++ us.drop (off + vs.length)) ∧ w.grownBy w' (some g) := by
  obtain ⟨i, z, hi, hz, hz1, hz2⟩ := hok.info
  obtain ⟨h0, h2⟩ := h
  rcases h2 with ⟨h', _⟩ | ⟨g', cap', cur, hsl, hb, hg, hnc, hcm, hcs, htake⟩
  · cases h'
  simp only [Value.slice.injEq, Option.some.injEq, Addr.mk.injEq, and_true, true_and] at hsl
  obtain ⟨rfl, rfl⟩ := hsl
  have hle : us.length ≤ cur.toList.length := by
    rw [h0]; simp only [Array.length_toList]; rw [hcs]; exact Nat.mul_le_mul_right _ hnc
  have hst := run_storeCells_at P g off e vs 0 cur w hg (by simp only [Array.length_toList] at hle; omega) h1
  simp only [Nat.add_zero] at hst
  refine ⟨w.setRow g (cur.toList.take off ++ vs ++ cur.toList.drop (off + vs.length)).toArray, ?_, ⟨?_, .inr ⟨g, cap, (cur.toList.take off ++ vs ++ cur.toList.drop (off + vs.length)).toArray, rfl, hb, setRow_heap w g cur _ e _ hg, hnc, hcm, ?_, ?_⟩⟩, ⟨rfl, rfl, rfl, by simp, fun k _ hk => setRow_other w g k _ (fun e => hk (by rw [e]))⟩⟩
  · have hsz : v.cells.size = i.size := by rw [hz2, ← hn, ← hv]; simp
    simp [Instr.storeAt, Instr.sureAddr, storeVar, sizeOf, typeInfo, hi, hsz, hv, hst]
  · simp only [List.length_append, List.length_take, List.length_drop]; omega
  · simp only [List.size_toArray, List.length_append, List.length_take, List.length_drop, Array.length_toList]
    rw [← hcs]
    simp only [Array.length_toList] at hle
    omega
  · rw [← h0]
    have hc : cur.toList = us ++ cur.toList.drop us.length := by
      conv => lhs; rw [← List.take_append_drop us.length cur.toList]
      rw [h0, htake]
    simp only []
    generalize cur.toList.drop us.length = r at hc
    rw [hc]
    have e1 : (us ++ r).take off = us.take off := List.take_append_of_le_length (by omega)
    have e2 : (us ++ r).drop (off + vs.length) = us.drop (off + vs.length) ++ r := List.drop_append_of_le_length hoff
    rw [e1, e2, ← List.append_assoc]
    have : us.length = (us.take off ++ vs ++ us.drop (off + vs.length)).length := by
      simp only [List.length_append, List.length_take, List.length_drop]; omega
    conv => lhs; rw [this]
    exact List.take_left
end
end Go.Proofs.Ytgnnmifpfgpllaa
/- Operations on own memory, as abstract states have them. -/
namespace Go.Proofs.Ytgnnmifpfgpllaa
open Go.RowKit
def AV.isCell : AV → Bool
  | .lit (.int _ _) => true
  | .lit (.bool _) => true
  | .lit (.string _) => true
  | .lit (.slice _ _ _) => true
  | .own _ _ => true
  | .sl _ _ => true
  | .cel => true
  | _ => false
theorem Rep.oneCell {C : Cx} {x : AV} {u : Value} (h : Rep C x u) (hx : x.isCell = true) : u.oneCell' = true := by
  cases h with
  | lit v => cases u <;> simp [AV.isCell] at hx <;> rfl
  | cel h1 => exact h1
  | own h1 hn hs h2 => obtain ⟨A, c, rfl, _⟩ := hs; rfl
  | sl h1 => obtain ⟨A, c, e, _⟩ := h1; simp at e; subst e; rfl
  | _ => simp [AV.isCell] at hx
def setE (obj : Nat → AO) : List (Nat × AO) → Nat → AO
  | [] => obj
  | (k, x) :: l => setO (setE obj l) k x
abbrev MR := Option (Prop × AV × List (Nat × AO) × List Nat)
/-- a slice to be appended: its data -/
def srcOf (h : Nat → AO) (t : Ty) : AV → Option (Prop × List t.den × List Nat)
  | .sl t' ys => if e : t' = t then some (True, e ▸ ys, []) else none
  | .own o n => match h o with
    | .row _ t' ys => if e : t' = t then some (n = ys.length, e ▸ ys, [o]) else none
    | _ => none
  | .lit (.slice none 0 0) => some (True, [], [])
  | _ => none
def memOp (Θ : TypeId → Option TI) (ev : Operand → Option AV) (h : Nat → AO) (nid : Nat) : Op → MR
  | .alloc T => match Θ T, h nid with
    | some ti, .dead => some (True, .box nid 0, [(nid, .box T (ti.zero.map .lit))], [nid])
    | _, _ => none
  | .box T x => match (ev x).bind AV.cells, h nid with
    | some cs, .dead => some (True, .box nid 0, [(nid, .box T cs)], [nid])
    | _, _ => none
  | .load T p => match Θ T, ev p with
    | some ti, some (.rp cs) => (loadAV ti cs).map fun x => (True, x, [], [])
    | some ti, some (.box o off) => match h o with
      | .box _ cs => (loadAV ti (cs.drop off)).map fun x => (True, x, [], [o])
      | _ => none
    | some ti, some (.elt o n sz k off) => match h o with
      | .row _ t xs => if t.flat = true ∧ t.sz = sz then (loadAV ti ((t.cells (xs.getD k t.dflt)).drop off)).map fun x => (n = xs.length ∧ k < n, x, [], [o]) else none
      | _ => none
    | _, _ => none
  | .store T p y => match Θ T, ev p, (ev y).bind AV.cells with
    | some ti, some (.box o off), some vs => match h o with
      | .box e cs => if vs.length = ti.zero.length ∧ off + vs.length ≤ cs.length ∧ vs.all AV.isCell = true then some (True, .any, [(o, .box e (cs.take off ++ vs ++ cs.drop (off + vs.length)))], [o]) else none
      | _ => none
    | some ti, some (.elt o n sz k off), some vs => match h o with
      | .row e t xs => if t.flat = true ∧ t.sz = sz ∧ vs.length = ti.zero.length ∧ off + vs.length ≤ sz ∧ vs.all AV.isCell = true then
          (t.ofC ((t.cells (xs.getD k t.dflt)).take off ++ vs ++ (t.cells (xs.getD k t.dflt)).drop (off + vs.length))).map fun y => (n = xs.length ∧ k < n, .any, [(o, .row e t (xs.set k y))], [o]) else none
      | _ => none
    | _, _, _ => none
  | .buildSlice T n parts => match Θ T, parts.toList.mapM (fun p => (ev p.2).bind AV.cells), h nid with
    | some ti, some rows, .dead => match ti.el with
      | some (e, y, _) => if parts.toList.map (·.1) = List.range n ∧ rows.all (fun r => r.length == y.sz) = true ∧ n * y.sz ≤ 1000 then
          (match rows.mapM y.ofC with
          | some xs => some (True, .own nid n, [(nid, .row e y xs)], [nid])
          | none => some (True, .own nid n, [(nid, .mix e y.sz rows)], [nid])) else none
      | none => none
    | _, _, _ => none
  | .makeSlice T l c => match Θ T, ev l, ev c, h nid with
    | some ti, some (.lit (.int _ i)), some (.lit (.int _ j)), .dead => match ti.el with
      | some (e, y, b) => if b ≤ 1000 then some (j = i ∧ 0 ≤ i ∧ i ≤ 1000000000, .own nid i.toNat, [(nid, .row e y (List.replicate i.toNat y.dflt))], [nid]) else none
      | none => none
    | _, _, _, _ => none
  | .call c => match c.callee, c.args.toList, c.argTypes.toList with
    | .builtin .append, [s, x], [T, T'] => if T' = T then
      (match Θ T, ev s, ev x with
      | some ti, some (.own o n), some src => match ti.el, h o with
        | some (e', y, b), .row e t xs => if t.flat = true ∧ b ≤ 1000 ∧ e' = e ∧ y.sz = t.sz then (srcOf h t src).map fun r => (n = xs.length ∧ r.1 ∧ xs.length + r.2.1.length ≤ 1000000000, .own o (xs ++ r.2.1).length, [(o, .row e t (xs ++ r.2.1))], o :: r.2.2) else none
        | _, _ => none
      | some ti, some (.lit (.slice none 0 0)), some src => match ti.el, h nid with
        | some (e, y, b), .dead => if y.flat = true ∧ b ≤ 1000 then (srcOf h y src).map fun r => (r.1 ∧ r.2.1.length ≤ 1000000000, .own nid r.2.1.length, [(nid, .row e y r.2.1)], nid :: r.2.2) else none
        | _, _ => none
      | _, _, _ => none) else none
    | _, _, _ => none
  | _ => none
section
variable {P : Program} {Θ : TypeId → Option TI} {w0 : World} {get : Nat → Option AV} {obj : Nat → AO} {a : Act} {W : World} {ρ : Nat → Value} {β : Nat → List Nat}
/-- what a memory operation comes to -/
def MemOut (P : Program) (w0 : World) (get : Nat → Option AV) (obj : Nat → AO) (a : Act) (W : World) (o : Oper) (x : AV) (eff : List (Nat × AO)) : Prop :=
  ∃ r W' ρ' β', (execOp a.eval o).run P W = .ok r W' ∧ ((r = .skip ∧ x = .any) ∨ ∃ v, r = .value v ∧ Rep (cxOf (setE obj eff) W' ρ' β') x v) ∧ RelW w0 get (setE obj eff) a W' ρ' β'
theorem len_dead {x : AO} (h : x = .dead) : x.len = none := by rw [h]; rfl
theorem sound_alloc (hΘ : ∀ t ti, Θ t = some ti → ti.ok P t) (h : RelW w0 get obj a W ρ β) {o : Oper} {T : TypeId} (ho : o.op = .alloc T) {ti : TI} (e0 : Θ T = some ti) {nid : Nat} (hd : obj nid = .dead) : MemOut P w0 get obj a W o (.box nid 0) [(nid, .box T (ti.zero.map .lit))] := by
  obtain ⟨i, z, hi, hz, hz1, hz2⟩ := (hΘ _ _ e0).info
  have hx : execOp a.eval o = (do pure (.value (← Instr.alloc T true (.tuple #[])))) := by unfold execOp; rw [ho]
  obtain ⟨ρ', β', hle, h1, h2⟩ := h.newBox (len_dead hd) T (Reps.lits (C := cxOf obj W ρ β) ti.zero)
  refine ⟨.value (.pointer (some ⟨W.heap.size, 0, none⟩)), W.alloc (.cells ti.zero.toArray T), ρ', β', ?_, .inr ⟨_, rfl, h2⟩, h1⟩
  rw [hx]
  apply run_v
  have : z.cells = ti.zero.toArray := by rw [← hz1]
  simp [Instr.alloc, zeroValue, typeInfo, hi, hz, newVar, newRow, this]
theorem sound_box (h : RelW w0 get obj a W ρ β) {o : Oper} {T : TypeId} {y : Operand} (ho : o.op = .box T y) {x : AV} {cs : List AV} (hr : Rep (cxOf obj W ρ β) x (a.eval y)) (hcs : x.cells = some cs) {nid : Nat} (hd : obj nid = .dead) : MemOut P w0 get obj a W o (.box nid 0) [(nid, .box T cs)] := by
  have hx : execOp a.eval o = (do pure (.value (← Instr.box T (a.eval y)))) := by unfold execOp; rw [ho]
  obtain ⟨ρ', β', hle, h1, h2⟩ := h.newBox (len_dead hd) T (AV.cells_rep hr hcs).1
  refine ⟨.value (.pointer (some ⟨W.heap.size, 0, none⟩)), W.alloc (.cells (a.eval y).cells.toList.toArray T), ρ', β', ?_, .inr ⟨_, rfl, h2⟩, h1⟩
  rw [hx]
  apply run_v
  simp [Instr.box, newVar, newRow]
/-- a box's cells -/
theorem RelW.boxAt (h : RelW w0 get obj a W ρ β) {o off : Nat} {e : TypeId} {cs : List AV} (hob : obj o = .box e cs) {u : Value} (hr : Rep (cxOf obj W ρ β) (.box o off) u) :
    ∃ b us, u = .pointer (some ⟨b, off, none⟩) ∧ ρ o = .slice (some ⟨b, 0, none⟩) 1 1 ∧ W.ownsRow w0.heap.size e cs.length (.slice (some ⟨b, 0, none⟩) 1 1) 1 us ∧ Reps (cxOf obj W ρ β) cs us ∧ β o = [b] := by
  have ho := h.objs o
  rw [hob] at ho
  obtain ⟨b, us, h1, h2, h3, h4⟩ := ho
  cases hr with
  | @box _ _ m b' g1 g2 g3 =>
    have : m = 1 := by
      have : (obj o).len = some m := g1
      rw [hob] at this
      simp [AO.len] at this; exact this.symm
    obtain ⟨c, hc⟩ := g3 this
    rw [show (cxOf obj W ρ β).ρ o = ρ o from rfl, h1] at hc
    simp at hc
    obtain ⟨rfl, _⟩ := hc
    exact ⟨b, us, rfl, h1, by rw [← h1]; exact h2, h3, h4⟩
theorem sound_load_box (hΘ : ∀ t ti, Θ t = some ti → ti.ok P t) (h : RelW w0 get obj a W ρ β) {o : Oper} {T : TypeId} {p : Operand} (ho : o.op = .load T p) {ti : TI} (e0 : Θ T = some ti) {b off : Nat} (hr : Rep (cxOf obj W ρ β) (.box b off) (a.eval p)) {e : TypeId} {cs : List AV} (hob : obj b = .box e cs) {x : AV} (hl : loadAV ti (cs.drop off) = some x) : MemOut P w0 get obj a W o x [] := by
  have hx : execOp a.eval o = (do pure (.value (← Instr.loadAt T (a.eval p)))) := by unfold execOp; rw [ho]
  obtain ⟨g, us, h1, h2, h3, h4, h5⟩ := h.boxAt hob hr
  obtain ⟨v, hv1, hv2⟩ := load_any (C := cxOf obj W ρ β) (hΘ _ _ e0) (ad := ⟨g, off, none⟩) hl (h4.drop off) (fun j u hj => by
    rw [List.getElem?_drop] at hj
    have := h3.cells (g := g) rfl (off + j) u hj
    rw [Addr.add_lit, Nat.zero_add] at this
    rw [Addr.add_lit]; exact this)
  exact ⟨.value v, W, ρ, β, by rw [hx, h1]; exact run_v hv1, .inr ⟨v, rfl, hv2⟩, h⟩
theorem sound_load_rp (hΘ : ∀ t ti, Θ t = some ti → ti.ok P t) (h : RelW w0 get obj a W ρ β) {o : Oper} {T : TypeId} {p : Operand} (ho : o.op = .load T p) {ti : TI} (e0 : Θ T = some ti) {cs : List AV} (hr : Rep (cxOf obj W ρ β) (.rp cs) (a.eval p)) {x : AV} (hl : loadAV ti cs = some x) : MemOut P w0 get obj a W o x [] := by
  have hx : execOp a.eval o = (do pure (.value (← Instr.loadAt T (a.eval p)))) := by unfold execOp; rw [ho]
  generalize hu : a.eval p = u at hr hx
  cases hr with
  | @rp _ ad us hI hc hr =>
    have hreps : Reps (cxOf obj W ρ β) cs ((List.range cs.length).map us) := by
      refine ⟨by simp, fun j c u h1 h2 => ?_⟩
      have hj : j < cs.length := (List.getElem?_eq_some_iff.1 h1).1
      rw [List.getElem?_map, List.getElem?_range hj] at h2
      simp at h2; subst h2
      exact hr j c h1
    obtain ⟨v, hv1, hv2⟩ := load_any (C := cxOf obj W ρ β) (hΘ _ _ e0) (ad := ad) hl hreps (fun j u hj => by
      rw [List.getElem?_map] at hj
      rcases Nat.lt_or_ge j cs.length with hlt | hge
      · rw [List.getElem?_range hlt] at hj
        simp at hj; subst hj
        exact hc j hlt
      · rw [List.getElem?_eq_none (by simpa using hge)] at hj; simp at hj)
    exact ⟨.value v, W, ρ, β, by rw [hx]; exact run_v hv1, .inr ⟨v, rfl, hv2⟩, h⟩
/-- a flat row's cells -/
theorem RelW.rowAt (h : RelW w0 get obj a W ρ β) {o n sz k off : Nat} {e : TypeId} {t : Ty} {xs : List t.den} (hf : t.flat = true) (hob : obj o = .row e t xs) (hn : n = xs.length) {u : Value} (hr : Rep (cxOf obj W ρ β) (.elt o n sz k off) u) :
    ∃ b c, u = .pointer (some ⟨b, k * sz + off, none⟩) ∧ ρ o = .slice (some ⟨b, 0, none⟩) n c ∧ W.ownsRow w0.heap.size e t.sz (.slice (some ⟨b, 0, none⟩) n c) n (xs.map t.vals).flatten ∧ β o = [b] := by
  have ho := h.objs o
  rw [hob] at ho
  obtain ⟨h1, h2⟩ := (ownL_flat hf).1 ho
  cases hr with
  | @elt _ _ _ _ _ m b g1 g2 g3 =>
    have hm : n = m := by
      have : (obj o).len = some m := g1
      rw [hob] at this
      simp [AO.len] at this; omega
    obtain ⟨c, hc⟩ := g3 hm
    have hc' : ρ o = .slice (some ⟨b, 0, none⟩) n c := hc
    refine ⟨b, c, rfl, hc', ?_, ?_⟩
    · rw [← hc', hn]; exact h1
    · rw [h2, hc']; rfl
theorem sound_load_elt (hΘ : ∀ t ti, Θ t = some ti → ti.ok P t) (h : RelW w0 get obj a W ρ β) {o : Oper} {T : TypeId} {p : Operand} (ho : o.op = .load T p) {ti : TI} (e0 : Θ T = some ti) {b n k off : Nat} {e : TypeId} {t : Ty} {xs : List t.den} (hr : Rep (cxOf obj W ρ β) (.elt b n t.sz k off) (a.eval p)) (hf : t.flat = true) (hob : obj b = .row e t xs) (hn : n = xs.length) (hk : k < n) {x : AV} (hl : loadAV ti ((t.cells (xs.getD k t.dflt)).drop off) = some x) : MemOut P w0 get obj a W o x [] := by
  have hx : execOp a.eval o = (do pure (.value (← Instr.loadAt T (a.eval p)))) := by unfold execOp; rw [ho]
  obtain ⟨g, c, h1, h2, h3, h4⟩ := h.rowAt hf hob hn hr
  have hk' : k < xs.length := by omega
  have hge : xs.getD k t.dflt = xs[k] := by rw [List.getD_eq_getElem?_getD, List.getElem?_eq_getElem hk']; rfl
  rw [hge] at hl
  obtain ⟨v, hv1, hv2⟩ := load_any (C := cxOf obj W ρ β) (hΘ _ _ e0) (ad := ⟨g, k * t.sz + off, none⟩) hl ((flat_cells t hf xs[k]).drop off) (fun j u hj => by
    rw [List.getElem?_drop] at hj
    have hlt : off + j < t.sz := by
      have := (List.getElem?_eq_some_iff.1 hj).1
      rwa [Ty.vals_len t hf] at this
    have h5 := h3.cells (g := g) rfl (k * t.sz + (off + j)) u (by rw [flat_get hf xs k (off + j) hk' hlt]; exact hj)
    rw [Addr.add_lit, Nat.zero_add] at h5
    show W.cell? _ = _
    rw [Addr.add_lit, Nat.add_assoc]; exact h5)
  exact ⟨.value v, W, ρ, β, by rw [hx, h1]; exact run_v hv1, .inr ⟨v, rfl, hv2⟩, h⟩
theorem reps_cell {C : Cx} {cs : List AV} {us : List Value} (h : Reps C cs us) (hc : cs.all AV.isCell = true) : ∀ u ∈ us, u.oneCell' = true := by
  intro u hu
  obtain ⟨j, hj, rfl⟩ := List.getElem_of_mem hu
  have hj' : j < cs.length := by rw [← h.1]; exact hj
  exact (h.2 j _ _ (List.getElem?_eq_getElem hj') (List.getElem?_eq_getElem hj)).oneCell (List.all_eq_true.1 hc _ (List.getElem_mem hj'))
theorem setO_same (obj : Nat → AO) (o : Nat) (x : AO) : setO obj o x o = x := by simp [setO]
theorem setO_other {obj : Nat → AO} {o k : Nat} {x : AO} (h : k ≠ o) : setO obj o x k = obj k := by simp [setO, h]
/-- an object is written in place -/
theorem RelW.set_ (h : RelW w0 get obj a W ρ β) {o : Nat} {x : AO} {W' : World} (hh : (obj o).held = true) (hlen : ∃ m, (obj o).len = some m ∧ x.len = some m) (hg : W.grownBy W' (ρ o).ownBlock) (hown : ∀ C', (∀ c u, Rep (cxOf obj W ρ β) c u → Rep C' c u) → C'.W = W' → x.own C' w0.heap.size (ρ o) (β o)) : RelW w0 get (setO obj o x) a W' ρ β := by
  obtain ⟨m, hm, hm'⟩ := hlen
  have hln : (obj o).len ≠ none := by rw [hm]; simp
  refine (h.write hh (o := o) (obj' := setO obj o x) (ρ' := ρ) (β' := β) (m := m) (m' := m) hm (by rw [setO_same]; exact hm') (Nat.le_refl _) (fun _ => rfl) (fun o' ho' => ⟨setO_other ho', rfl, rfl⟩) hg (fun b hb => ⟨.inl hb, (h.lt o b hln hb).1, Nat.lt_of_lt_of_le (h.lt o b hln hb).2 hg.size⟩) (h.nodup o hln) (fun hk => ?_)).2
  rw [setO_same]
  exact hown _ hk rfl
theorem sound_store_box (hΘ : ∀ t ti, Θ t = some ti → ti.ok P t) (h : RelW w0 get obj a W ρ β) {o : Oper} {T : TypeId} {p y : Operand} (ho : o.op = .store T p y) {ti : TI} (e0 : Θ T = some ti) {b off : Nat} (hr : Rep (cxOf obj W ρ β) (.box b off) (a.eval p)) {e : TypeId} {cs vs : List AV} (hob : obj b = .box e cs) {x : AV} (hv : Rep (cxOf obj W ρ β) x (a.eval y)) (hvs : x.cells = some vs) (hn : vs.length = ti.zero.length) (hle : off + vs.length ≤ cs.length) (h1c : vs.all AV.isCell = true) :
    MemOut P w0 get obj a W o .any [(b, .box e (cs.take off ++ vs ++ cs.drop (off + vs.length)))] := by
  have hx : execOp a.eval o = (do Instr.storeAt T (a.eval p) (a.eval y); pure .skip) := by unfold execOp; rw [ho]
  obtain ⟨g, us, h1, h2, h3, h4, h5⟩ := h.boxAt hob hr
  have hreps := (AV.cells_rep hv hvs).1
  have hl := hreps.1
  obtain ⟨w', g1, g2, g3⟩ := store_any (hΘ _ _ e0) h3 (v := a.eval y) (vs := (a.eval y).cells.toList) (off := off) rfl (by rw [hl]; exact hn) (by rw [hl, h4.1]; exact hle) (reps_cell hreps h1c)
  refine ⟨.skip, w', ρ, β, ?_, .inl ⟨rfl, rfl⟩, ?_⟩
  · rw [hx, h1, Sem.run_bind, g1]; rfl
  · refine h.set_ (by rw [hob]; rfl) ⟨1, by rw [hob]; rfl, rfl⟩ (by rw [h2]; exact g3) (fun C' hk hW => ?_)
    have hr2 : Reps C' (cs.take off ++ vs ++ cs.drop (off + vs.length)) (us.take off ++ (a.eval y).cells.toList ++ us.drop (off + (a.eval y).cells.toList.length)) := by
      rw [hl]
      exact ((((h4.take off).append hreps).append (h4.drop (off + vs.length))).mono fun c u _ => hk c u)
    refine ⟨g, _, h2, ?_, hr2, h5⟩
    rw [hW, h2]
    have : (cs.take off ++ vs ++ cs.drop (off + vs.length)).length = cs.length := by simp only [List.length_append, List.length_take, List.length_drop]; omega
    rw [this]; exact g2
theorem flat_set {t : Ty} (hf : t.flat = true) (xs : List t.den) (k off : Nat) (y : t.den) (vs : List Value) (hk : k < xs.length) (hoff : off + vs.length ≤ t.sz) (hy : t.vals y = (t.vals xs[k]).take off ++ vs ++ (t.vals xs[k]).drop (off + vs.length)) :
    ((xs.set k y).map t.vals).flatten = (xs.map t.vals).flatten.take (k * t.sz + off) ++ vs ++ (xs.map t.vals).flatten.drop (k * t.sz + off + vs.length) := by
  have hlen := fun x => Ty.vals_len t hf x
  have key : ∀ (xs : List t.den) (k : Nat) (hk : k < xs.length) (_ : t.vals y = (t.vals xs[k]).take off ++ vs ++ (t.vals xs[k]).drop (off + vs.length)), ((xs.set k y).map t.vals).flatten = (xs.map t.vals).flatten.take (k * t.sz + off) ++ vs ++ (xs.map t.vals).flatten.drop (k * t.sz + off + vs.length) := by
    intro xs
    induction xs with
    | nil => intro k hk; simp at hk
    | cons x xs ih =>
      intro k hk hy
      cases k with
      | zero =>
        simp only [List.getElem_cons_zero] at hy
        simp only [List.set_cons_zero, List.map_cons, List.flatten_cons, Nat.zero_mul, Nat.zero_add, hy]
        rw [List.take_append_of_le_length (by rw [hlen]; omega), List.drop_append_of_le_length (by rw [hlen]; omega)]
        simp
      | succ k =>
        simp only [List.getElem_cons_succ] at hy
        have := ih k (by simpa using hk) hy
        simp only [List.set_cons_succ, List.map_cons, List.flatten_cons, this]
        rw [show (k + 1) * t.sz + off = (t.vals x).length + (k * t.sz + off) by rw [hlen, Nat.succ_mul]; omega]
        rw [List.take_length_add_append, show (t.vals x).length + (k * t.sz + off) + vs.length = (t.vals x).length + (k * t.sz + off + vs.length) by omega, List.drop_length_add_append]
        simp
  exact key xs k hk hy
theorem sound_store_elt (hΘ : ∀ t ti, Θ t = some ti → ti.ok P t) (h : RelW w0 get obj a W ρ β) {o : Oper} {T : TypeId} {p y : Operand} (ho : o.op = .store T p y) {ti : TI} (e0 : Θ T = some ti) {b n k off : Nat} {e : TypeId} {t : Ty} {xs : List t.den} (hr : Rep (cxOf obj W ρ β) (.elt b n t.sz k off) (a.eval p)) (hf : t.flat = true) (hob : obj b = .row e t xs) (hn : n = xs.length) (hk : k < n) {x : AV} {vs : List AV} (hv : Rep (cxOf obj W ρ β) x (a.eval y)) (hvs : x.cells = some vs) (hnv : vs.length = ti.zero.length) (hle : off + vs.length ≤ t.sz) (h1c : vs.all AV.isCell = true) {z : t.den}
    (hz : t.ofC ((t.cells (xs.getD k t.dflt)).take off ++ vs ++ (t.cells (xs.getD k t.dflt)).drop (off + vs.length)) = some z) : MemOut P w0 get obj a W o .any [(b, .row e t (xs.set k z))] := by
  have hx : execOp a.eval o = (do Instr.storeAt T (a.eval p) (a.eval y); pure .skip) := by unfold execOp; rw [ho]
  obtain ⟨g, c, h1, h2, h3, h4⟩ := h.rowAt hf hob hn hr
  have hk' : k < xs.length := by omega
  have hge : xs.getD k t.dflt = xs[k] := by rw [List.getD_eq_getElem?_getD, List.getElem?_eq_getElem hk']; rfl
  rw [hge] at hz
  have hreps := (AV.cells_rep hv hvs).1
  have hl := hreps.1
  have hfl := flat_cells (C := cxOf obj W ρ β) t hf xs[k]
  have hval := (Ty.ofC_vals t _ _ z hz (((hfl.take off).append hreps).append (hfl.drop (off + vs.length)))).1
  have hlen : (xs.map t.vals).flatten.length = n * t.sz := h3.1
  have hbound : k * t.sz + t.sz ≤ n * t.sz := by rw [← Nat.succ_mul]; exact Nat.mul_le_mul_right _ hk
  obtain ⟨w', g1, g2, g3⟩ := store_any (hΘ _ _ e0) h3 (v := a.eval y) (vs := (a.eval y).cells.toList) (off := k * t.sz + off) rfl (by rw [hl]; exact hnv) (by rw [hl, hlen]; omega) (reps_cell hreps h1c)
  refine ⟨.skip, w', ρ, β, ?_, .inl ⟨rfl, rfl⟩, ?_⟩
  · rw [hx, h1, Sem.run_bind, g1]; rfl
  · refine h.set_ (by rw [hob]; rfl) ⟨n, by rw [hob, hn]; rfl, by simp [AO.len, hn]⟩ (by rw [h2]; exact g3) (fun C' hk' hW => ?_)
    have h0 := h.objs b
    rw [hob] at h0
    refine (ownL_flat hf).2 ⟨?_, ((ownL_flat hf).1 h0).2⟩
    rw [hW, h2, flat_set hf xs k off z (a.eval y).cells.toList (by omega) (by rw [hl]; exact hle) (by rw [← hval, hl]), List.length_set, ← hn]
    exact g2
end
end Go.Proofs.Ytgnnmifpfgpllaa
/- New rows and append, as abstract states have them. -/
namespace Go.Proofs.Ytgnnmifpfgpllaa
open Go.RowKit
theorem fill_seq (size : Nat) : ∀ (qs : List (Nat × Value)) (k : Nat) (us : List Value), (∀ (j : Nat) q, qs[j]? = some q → q.1 = k + j ∧ q.2.cells.size = size) → us.length = (k + qs.length) * size →
    Instr.fill (fun i => some (i * size, size)) us.toArray qs = some (us.take (k * size) ++ (qs.map fun q => q.2.cells.toList).flatten).toArray
  | [], k, us, _, hl => by
    simp only [Instr.fill, List.map_nil, List.flatten_nil, List.append_nil]
    rw [List.take_of_length_le (by simp at hl; omega)]
  | (i, q) :: qs, k, us, h, hl => by
    obtain ⟨e1, e2⟩ := h 0 _ rfl
    simp only [Nat.add_zero] at e1 e2
    subst e1
    simp only [List.length_cons] at hl
    have hm : (i + (qs.length + 1)) * size = i * size + (qs.length * size + size) := by rw [Nat.add_mul, Nat.add_mul, Nat.one_mul]
    have hle : i * size + q.cells.toList.length ≤ us.length := by
      rw [hl, hm]; simp only [Array.length_toList, e2]; omega
    unfold Instr.fill
    simp only []
    rw [if_neg (by simp only [Bool.or_eq_true, decide_eq_true_eq, List.size_toArray]; simp only [Array.length_toList] at hle; omega)]
    rw [foldl_cells q (i * size) us hle]
    rw [fill_seq size qs (i + 1) _ (fun j q' hq => by
      have := h (j + 1) q' (by simpa using hq)
      exact ⟨by omega, this.2⟩) (by
      simp only [List.length_append, List.length_take, List.length_drop, Array.length_toList, e2]
      rw [hl, hm, Nat.add_mul, Nat.add_mul]
      omega)]
    congr 2
    have e3 : (us.take (i * size) ++ q.cells.toList).length = (i + 1) * size := by
      simp only [List.length_append, List.length_take, Array.length_toList, e2, Nat.add_mul, Nat.one_mul]
      omega
    rw [List.take_append_of_le_length (by rw [e3]; exact Nat.le_refl _), List.take_of_length_le (by rw [e3]; exact Nat.le_refl _)]
    simp
section
variable {P : Program} {Θ : TypeId → Option TI} {w0 : World} {get : Nat → Option AV} {obj : Nat → AO} {a : Act} {W : World} {ρ : Nat → Value} {β : Nat → List Nat}
theorem run_buildSlice_any {T e : TypeId} {ti : TI} {y : Ty} {b : Nat} (hok : ti.ok P T) (he : ti.el = some (e, y, b)) (qs : List (Nat × Value)) (hq : ∀ (j : Nat) q, qs[j]? = some q → q.1 = j ∧ q.2.cells.size = y.sz) (hb : qs.length * y.sz ≤ 1000) (w : World) :
    (Instr.buildSlice T qs.length qs.toArray).run P w = .ok (.slice (some ⟨w.heap.size, 0, none⟩) qs.length qs.length) (w.alloc (.cells (qs.map fun q => q.2.cells.toList).flatten.toArray e)) := by
  obtain ⟨hu, i', z, hi', hz, hs, hbb, hzs, h00, _⟩ := hok.el e y b he
  have h1 : ¬ 16777216 < qs.length * y.sz := by omega
  have hfill : ∀ zs : Array Value, zs.size = qs.length * y.sz → Instr.fill (fun i => some (i * y.sz, y.sz)) zs qs = some (qs.map fun q => q.2.cells.toList).flatten.toArray := by
    intro zs hz
    have := fill_seq y.sz qs 0 zs.toList (fun j q h => by have := hq j q h; exact ⟨by omega, this.2⟩) (by simpa using hz)
    simpa using this
  by_cases hz0 : qs.length * y.sz = 0
  · simp [Instr.buildSlice, run_underlying hu, sizeOf, typeInfo, hi', hs, h1, hz0, newRow, hfill (Array.map (fun _ => default) (Array.range 0)) (by simp [hz0])]
  · simp [Instr.buildSlice, run_underlying hu, sizeOf, typeInfo, hi', hs, h1, hz0, zeroValue, hz, newRow, hfill (Array.map (fun x => z.cells[x % z.cells.size]!) (Array.range (qs.length * y.sz))) (by simp)]
theorem mapM_len {α γ : Type} {f : α → Option γ} : ∀ {l : List α} {r : List γ}, l.mapM f = some r → r.length = l.length ∧ ∀ (j : Nat) x, l[j]? = some x → ∃ y, r[j]? = some y ∧ f x = some y
  | [], r, h => by simp at h; subst h; exact ⟨rfl, fun j x h => by simp at h⟩
  | x :: l, r, h => by
    simp only [List.mapM_cons, Option.bind_eq_bind, Option.bind_eq_some_iff, Option.pure_def, Option.some.injEq] at h
    obtain ⟨y, h1, r', h2, rfl⟩ := h
    obtain ⟨g1, g2⟩ := mapM_len h2
    refine ⟨by simp [g1], fun j x' hx => ?_⟩
    cases j with
    | zero => simp at hx; subst hx; exact ⟨y, rfl, h1⟩
    | succ j => exact g2 j x' (by simpa using hx)
theorem flatten_reps {C : Cx} : ∀ (rows : List (List AV)) (uss : List (List Value)), uss.length = rows.length → (∀ (j : Nat) r u, rows[j]? = some r → uss[j]? = some u → Reps C r u) → Reps C rows.flatten uss.flatten
  | [], [], _, _ => .nil
  | [], _ :: _, h, _ => by simp at h
  | _ :: _, [], h, _ => by simp at h
  | r :: rows, u :: uss, h, hr => by
    simp only [List.flatten_cons]
    exact (hr 0 r u rfl rfl).append (flatten_reps rows uss (by simpa using h) fun j r' u' h1 h2 => hr (j + 1) r' u' (by simpa using h1) (by simpa using h2))
theorem sound_buildSlice (hΘ : ∀ t ti, Θ t = some ti → ti.ok P t) (h : RelW w0 get obj a W ρ β) {ev : Operand → Option AV} (hev : ∀ x v, ev x = some v → Rep (cxOf obj W ρ β) v (a.eval x)) {o : Oper} {T : TypeId} {n : Nat} {parts : Array (Nat × Operand)} (ho : o.op = .buildSlice T n parts) {ti : TI} (e0 : Θ T = some ti) {e : TypeId} {y : Ty} {b : Nat} (hel : ti.el = some (e, y, b)) {rows : List (List AV)} (hrows : parts.toList.mapM (fun p => (ev p.2).bind AV.cells) = some rows) (hidx : parts.toList.map (·.1) = List.range n) (hsz : rows.all (fun r => r.length == y.sz) = true) (hb : n * y.sz ≤ 1000) {nid : Nat} (hd : obj nid = .dead) {x : AO}
    (hx : x = .mix e y.sz rows ∨ ∃ xs, rows.mapM y.ofC = some xs ∧ x = .row e y xs) : MemOut P w0 get obj a W o (.own nid n) [(nid, x)] := by
  have hex : execOp a.eval o = (do pure (.value (← Instr.buildSlice T n (parts.map fun (i, x) => (i, a.eval x))))) := by unfold execOp; rw [ho]
  obtain ⟨hl, hm⟩ := mapM_len hrows
  have hpn : parts.toList.length = n := by have := congrArg List.length hidx; simpa using this
  -- the parts' values
  obtain ⟨qs, hqs⟩ : ∃ q : List (Nat × Value), q = parts.toList.map fun p => (p.1, a.eval p.2) := ⟨_, rfl⟩
  have hql : qs.length = n := by rw [hqs, List.length_map, hpn]
  have hrep : ∀ (j : Nat) q, qs[j]? = some q → ∃ r, rows[j]? = some r ∧ Reps (cxOf obj W ρ β) r q.2.cells.toList ∧ q.1 = j := by
    intro j q hq
    rw [hqs, List.getElem?_map] at hq
    cases hp : parts.toList[j]? with
    | none => rw [hp] at hq; cases hq
    | some p =>
      rw [hp] at hq
      simp only [Option.map_some, Option.some.injEq] at hq
      subst hq
      obtain ⟨r, g1, g2⟩ := hm j p hp
      rw [Option.bind_eq_some_iff] at g2
      obtain ⟨v, g3, g4⟩ := g2
      refine ⟨r, g1, (AV.cells_rep (hev _ _ g3) g4).1, ?_⟩
      have : (parts.toList.map (·.1))[j]? = some p.1 := by rw [List.getElem?_map, hp]; rfl
      rw [hidx] at this
      have hlt : j < n := by rw [← hpn]; exact (List.getElem?_eq_some_iff.1 hp).1
      rw [List.getElem?_range hlt] at this
      simpa using this.symm
  have hcell : ∀ (j : Nat) q, qs[j]? = some q → q.1 = j ∧ q.2.cells.size = y.sz := by
    intro j q hq
    obtain ⟨r, g1, g2, g3⟩ := hrep j q hq
    refine ⟨g3, ?_⟩
    have h1 := List.all_eq_true.1 hsz r (List.mem_of_getElem? g1)
    simp only [beq_iff_eq] at h1
    have := g2.1
    simp only [Array.length_toList] at this
    omega
  have hrun := run_buildSlice_any (hΘ _ _ e0) hel qs hcell (by rw [hql]; exact hb) W
  rw [hql] at hrun
  have hrun0 := hrun
  have hparts : (parts.map fun (i, x) => (i, a.eval x)) = qs.toArray := by rw [← Array.toList_inj, Array.toList_map, hqs]
  -- the cells
  obtain ⟨uss, huss⟩ : ∃ u : List (List Value), u = qs.map fun q => q.2.cells.toList := ⟨_, rfl⟩
  have hfl : Reps (cxOf obj W ρ β) rows.flatten uss.flatten := flatten_reps rows uss (by rw [huss, List.length_map, hql, hl, hpn]) (fun j r u h1 h2 => by
    rw [huss, List.getElem?_map] at h2
    cases hq : qs[j]? with
    | none => rw [hq] at h2; cases h2
    | some q =>
      rw [hq] at h2
      simp only [Option.map_some, Option.some.injEq] at h2
      subst h2
      obtain ⟨r', g1, g2, _⟩ := hrep j q hq
      rw [g1] at h1; injection h1 with h1; subst h1; exact g2)
  have hrl : rows.length = n := by rw [hl, hpn]
  have husl : uss.flatten.length = n * y.sz := by
    rw [hfl.1, List.length_flatten, ← hrl]
    clear hfl hrep hm hl hrows hx hrl
    induction rows with
    | nil => simp
    | cons r rows ih =>
      simp only [List.all_cons, Bool.and_eq_true, beq_iff_eq] at hsz
      simp only [List.map_cons, List.sum_cons, List.length_cons, Nat.succ_mul]
      rw [ih hsz.2, hsz.1]; omega
  have hrow := World.ownsRow_lit (base := W.heap.size) (size := y.sz) (e := e) W uss.flatten.toArray n (Nat.le_refl _) (by unfold maxLen; have : n ≤ n * y.sz := Nat.le_mul_of_pos_right _ ((hΘ _ _ e0).el e y b hel).2.choose_spec.choose_spec.2.2.2.2.2.1; omega) (by simpa using husl)
  have hxl : x.len = some n := by
    rcases hx with rfl | ⟨xs, h1, rfl⟩
    · simp [AO.len, hrl]
    · have := (mapM_len h1).1; simp [AO.len, this, hrl]
  obtain ⟨ρ', β', e1, hle, h2⟩ := h.new1 (len_dead hd) (x := x) (W' := W.alloc (.cells uss.flatten.toArray e)) (v := .slice (some ⟨W.heap.size, 0, none⟩) n n) (bs := [W.heap.size]) (below_new _ _) (by rw [hxl]; simp)
    (fun C' hle hW => by
      rcases hx with rfl | ⟨xs, h1, rfl⟩
      · refine ⟨uss.flatten, by rw [hW, hrl]; simpa using hrow, hfl.le hle, fun r hr => by have := List.all_eq_true.1 hsz r hr; simpa using this, rfl⟩
      · obtain ⟨g1, g2⟩ := mapM_len h1
        have hvals : uss.flatten = (xs.map y.vals).flatten ∧ (y.flat = true ∨ rows = []) := by
          have : uss = xs.map y.vals := by
            apply List.ext_getElem? 
            intro j
            rw [huss, List.getElem?_map, List.getElem?_map]
            cases hq : qs[j]? with
            | none =>
              have : xs[j]? = none := by
                rw [List.getElem?_eq_none_iff] at hq ⊢
                rw [g1, hrl, ← hql]; exact hq
              rw [this]; rfl
            | some q =>
              obtain ⟨r, f1, f2, _⟩ := hrep j q hq
              obtain ⟨z, f3, f4⟩ := g2 j r f1
              rw [f3]
              simp only [Option.map_some]
              rw [(Ty.ofC_vals y r _ z f4 f2).1]
          refine ⟨by rw [this], ?_⟩
          cases rows with
          | nil => exact .inr rfl
          | cons r rows =>
            obtain ⟨z, f3, f4⟩ := g2 0 r rfl
            have hq : ∃ q, qs[0]? = some q := by
              have : 0 < qs.length := by rw [hql, ← hrl]; simp
              exact ⟨_, List.getElem?_eq_getElem this⟩
            obtain ⟨q, hq⟩ := hq
            obtain ⟨r', f5, f6, _⟩ := hrep 0 q hq
            simp at f5; subst f5
            exact .inl (Ty.ofC_vals y _ _ z f4 f6).2
        have hxn : xs.length = n := by rw [g1, hrl]
        rcases hvals.2 with hf | hf
        · refine (ownL_flat hf).2 ⟨?_, rfl⟩
          rw [hW, ← hvals.1, hxn]
          simpa using hrow
        · subst hf
          have hn0 : n = 0 := by rw [← hrl]; rfl
          subst hn0
          have hx0 : xs = [] := List.eq_nil_of_length_eq_zero hxn
          subst hx0
          refine ⟨[], [], rfl, rfl, fun k x u b h => by simp at h, ?_, by simp [Value.ownBlock]⟩
          rw [hW]
          have : uss.flatten = [] := by rw [hvals.1]; rfl
          rw [this] at hrow ⊢
          simpa using hrow) (by simp) (fun b hb => by simp at hb; subst hb; simp)
  refine ⟨.value (.slice (some ⟨W.heap.size, 0, none⟩) n n), _, ρ', β', ?_, .inr ⟨_, rfl, ?_⟩, h2⟩
  · rw [hex, hparts, huss]
    exact run_v hrun
  · refine .own (m := n) ?_ (Nat.le_refl _) ⟨_, _, rfl, Nat.le_refl _, fun _ => ⟨_, rfl⟩⟩ (fun _ => e1.symm)
    show (setO obj nid x nid).len = some n
    rw [setO_same]; exact hxl
end
end Go.Proofs.Ytgnnmifpfgpllaa
/- make and append, as abstract states have them; all operations on memory. -/
namespace Go.Proofs.Ytgnnmifpfgpllaa
open Go.RowKit
theorem own_hs {w : World} {lo : Nat} {e : TypeId} {sz n : Nat} {v : Value} {us : List Value} (h : w.ownsRow lo e sz v n us) : ∃ A c, v = .slice A n c ∧ n ≤ c ∧ (0 < n → ∃ g, A = some ⟨g, 0, none⟩) := by
  rcases h.2 with ⟨rfl, h2⟩ | ⟨g, cap, cur, rfl, _, _, h3, _⟩
  · exact ⟨none, 0, by rw [h2], by omega, fun h => by omega⟩
  · exact ⟨_, _, rfl, h3, fun _ => ⟨g, rfl⟩⟩
theorem made_flat (z : Array Value) (sz n : Nat) (hz : z.size = sz) (h0 : 0 < sz) : (madeCells z (n * sz)).toList = (List.replicate n z.toList).flatten := by
  apply List.ext_getElem?
  intro k
  rcases Nat.lt_or_ge k (n * sz) with hk | hk
  · have hq : k / sz < n := (Nat.div_lt_iff_lt_mul h0).2 hk
    have hr : k % sz < sz := Nat.mod_lt _ h0
    have e : k = k / sz * sz + k % sz := by rw [Nat.mul_comm]; exact (Nat.div_add_mod k sz).symm
    have h1 := flatten_get (sz := sz) (List.replicate n z.toList) (fun r hr => by rw [(List.mem_replicate.1 hr).2]; simpa using hz) (k / sz) (k % sz) (by simpa using hq) hr
    rw [← e] at h1
    rw [h1]
    simp only [List.getElem_replicate]
    have hr' : k % sz < z.size := by omega
    simp [madeCells, hk, hz]
    rw [Array.getElem?_eq_getElem hr', getElem!_pos z _ hr']
  · have h1 : (madeCells z (n * sz)).toList.length ≤ k := by simpa [madeCells] using hk
    have h2 : (List.replicate n z.toList).flatten.length ≤ k := by simpa [List.length_flatten, hz] using hk
    rw [List.getElem?_eq_none h1, List.getElem?_eq_none h2]
section
variable {P : Program} {Θ : TypeId → Option TI} {w0 : World} {get : Nat → Option AV} {obj : Nat → AO} {a : Act} {W : World} {ρ : Nat → Value} {β : Nat → List Nat}
theorem sound_makeSlice (hΘ : ∀ t ti, Θ t = some ti → ti.ok P t) (h : RelW w0 get obj a W ρ β) {o : Oper} {T : TypeId} {l c : Operand} (ho : o.op = .makeSlice T l c) {ti : TI} (e0 : Θ T = some ti) {e : TypeId} {y : Ty} {b : Nat} (hel : ti.el = some (e, y, b)) {k1 k2 : IntKind} {i : Int} (hl : a.eval l = .int k1 i) (hc : a.eval c = .int k2 i) (hb : b ≤ 1000) (h0 : 0 ≤ i) (h1 : i ≤ 1000000000) {nid : Nat} (hd : obj nid = .dead) : MemOut P w0 get obj a W o (.own nid i.toNat) [(nid, .row e y (List.replicate i.toNat y.dflt))] := by
  have hex : execOp a.eval o = (do pure (.value (← Instr.makeSlice T (a.eval l) (a.eval c)))) := by unfold execOp; rw [ho]
  obtain ⟨hu, i', z, hi', hz, hs, hbb, hzs, h00, hdf⟩ := (hΘ _ _ e0).el e y b hel
  have hbytes : (i'.bytes : Int) * i ≤ 281474976710656 := by
    rw [hbb]
    have : (b : Int) * i ≤ 1000 * 1000000000 := Int.mul_le_mul (by omega) h1 h0 (by omega)
    omega
  have hrun := run_make (P := P) W T e i' z hu hi' hz k1 k2 i i h0 (Int.le_refl _) hbytes (by omega)
  rw [hs] at hrun
  have hfl := made_flat z.cells y.sz i.toNat hzs h00
  have hrow := World.ownsRow_lit (base := W.heap.size) (size := y.sz) (e := e) W (madeCells z.cells (i.toNat * y.sz)) i.toNat (Nat.le_refl _) (by unfold maxLen; omega) (by simp [madeCells])
  obtain ⟨ρ', β', e1, hle, h2⟩ := h.new1 (len_dead hd) (x := .row e y (List.replicate i.toNat y.dflt)) (W' := W.alloc (.cells (madeCells z.cells (i.toNat * y.sz)) e)) (v := .slice (some ⟨W.heap.size, 0, none⟩) i.toNat i.toNat) (bs := [W.heap.size]) (below_new _ _) (by simp [AO.len])
    (fun C' hle hW => by
      refine ⟨List.replicate i.toNat z.cells.toList, List.replicate i.toNat [], by simp, by simp, fun k x u bb hx hu hb => ?_, ?_, by simp [Value.ownBlock]⟩
      · rw [List.getElem?_replicate] at hx hu hb
        split at hx
        · rename_i hk
          rw [if_pos hk] at hu hb
          simp only [Option.some.injEq] at hx hu hb
          subst hx hu hb
          exact hdf _ _
        · cases hx
      · rw [hW, ← hfl, List.length_replicate]; exact hrow) (by simp) (fun b hb => by simp at hb; subst hb; simp)
  refine ⟨.value (.slice (some ⟨W.heap.size, 0, none⟩) i.toNat i.toNat), _, ρ', β', ?_, .inr ⟨_, rfl, ?_⟩, h2⟩
  · rw [hex, hl, hc]
    exact run_v hrun
  · refine .own (m := i.toNat) ?_ (Nat.le_refl _) ⟨_, _, rfl, Nat.le_refl _, fun _ => ⟨_, rfl⟩⟩ (fun _ => e1.symm)
    show (setO obj nid _ nid).len = _
    rw [setO_same]; simp [AO.len]
theorem flat_reads {W : World} {I : Nat → Prop} (hI : ∀ b, I b → b < W.heap.size) {t : Ty} (hf : t.flat = true) (h0 : 0 < t.sz) {xs : List t.den} {u : Value} (h : (Ty.list t).rep W I xs [u]) : ∃ A c, u = .slice A xs.length c ∧ Reads W W.heap.size t.sz A xs.length (xs.map t.vals).flatten := by
  obtain ⟨A, c, e, h1, h2, h3⟩ := h
  simp only [List.cons.injEq, and_true] at e
  refine ⟨A, c, e, ?_, fun hn => ?_⟩
  · rw [List.length_flatten]
    have : ∀ l : List t.den, ((l.map t.vals).map List.length).sum = l.length * t.sz := by
      intro l
      induction l with
      | nil => simp
      | cons x l ih => simp only [List.map_cons, List.sum_cons, ih, Ty.vals_len t hf, List.length_cons, Nat.succ_mul]; omega
    exact this xs
  · obtain ⟨ad, rfl, g1, g2⟩ := h3 hn
    refine ⟨ad, rfl, hI _ g1, fun j u hj => ?_⟩
    have e : j = j / t.sz * t.sz + j % t.sz := by rw [Nat.mul_comm]; exact (Nat.div_add_mod j t.sz).symm
    have hr : j % t.sz < t.sz := Nat.mod_lt _ h0
    have hk : j / t.sz < xs.length := by
      rcases Nat.lt_or_ge (j / t.sz) xs.length with h | h
      · exact h
      · exfalso
        have : ((xs.map t.vals).flatten)[j]? = none := by
          rw [List.getElem?_eq_none_iff, List.length_flatten]
          have : ∀ l : List t.den, ((l.map t.vals).map List.length).sum = l.length * t.sz := by
            intro l
            induction l with
            | nil => simp
            | cons x l ih => simp only [List.map_cons, List.sum_cons, ih, Ty.vals_len t hf, List.length_cons, Nat.succ_mul]; omega
          rw [this]
          exact Nat.le_trans (Nat.mul_le_mul_right _ h) (Nat.div_mul_le_self _ _)
        rw [this] at hj; cases hj
    rw [e, flat_get hf xs _ _ hk hr] at hj
    obtain ⟨vs, f1, f2⟩ := g2 _ _ (List.getElem?_eq_getElem hk)
    rw [(Ty.rep_flat t hf _ _).1 f1] at f2
    have := f2 _ u hj
    rwa [← e] at this
theorem src_sound (h : RelW w0 get obj a W ρ β) {t : Ty} (hf : t.flat = true) (h0 : 0 < t.sz) {x : AV} {u : Value} (hr : Rep (cxOf obj W ρ β) x u) {c : Prop} {ys : List t.den} {tch : List Nat} (hs : srcOf obj t x = some (c, ys, tch)) (hc : c) : ∃ A cp, u = .slice A ys.length cp ∧ Reads W W.heap.size t.sz A ys.length (ys.map t.vals).flatten := by
  unfold srcOf at hs
  split at hs
  · rename_i t' ys'
    split at hs
    · rename_i e
      subst e
      cases hs
      exact flat_reads (fun b hb => hb.1) hf h0 hr.sl_of
    · cases hs
  · rename_i o n
    split at hs
    · rename_i e t' ys' hob
      split at hs
      · rename_i e'
        subst e'
        cases hs
        have ho := h.objs o
        rw [hob] at ho
        obtain ⟨h1, h2⟩ := (ownL_flat hf).1 ho
        cases hr with
        | own g1 g2 g3 g4 =>
          obtain ⟨A, cp, rfl, g5, g6⟩ := g3
          have hm : (obj o).len = some ys'.length := by rw [hob]; rfl
          have e1 := g4 (by
            have : (obj o).len = some _ := g1
            rw [hm] at this; injection this with this; omega)
          have e2 : ρ o = .slice A n cp := e1.symm
          rw [e2, ← hc] at h1
          exact ⟨A, cp, by rw [hc], by rw [← hc]; exact Reads.of_own h1⟩
      · cases hs
    · cases hs
  · cases hs
    exact ⟨none, 0, by rw [hr.lit_eq]; rfl, Reads.none_⟩
  · cases hs
theorem run_append_full (w : World) (base : Nat) (t ty e : TypeId) (i : TypeInfo) (z : Value) (size bytes : Nat) (ht : P.underlying t = some (.slice e)) (hi : P.info? e = some i) (hz : i.zero = some z)
    (hsize : i.size = size) (hby : i.bytes = bytes) (hzs : z.cells.size = size) (hsz : 0 < size)
    (v : Value) (n : Nat) (xs : List Value) (hown : w.ownsRow base e size v n xs)
    (B : Nat) (A : Option Addr) (m c : Nat) (news : List Value) (hr : Reads w B size A m news) (h1 : ∀ u ∈ news, u.oneCell' = true)
    (h63 : n + m ≤ maxLen) (hbytes : (n + m) * bytes ≤ 140737488355328) (hbase : base ≤ w.heap.size) :
    ∃ v' w', (Builtin.append_ #[t, t] ty #[v, .slice A m c]).run P w = .ok v' w' ∧ w'.ownsRow base e size v' (n + m) (xs ++ news) ∧ w.grownBy w' v.ownBlock ∧
      (v'.ownBlock = v.ownBlock ∨ v'.ownBlock = some w.heap.size) ∧ (m = 0 → v' = v) := by
  obtain ⟨v', w', g1, g2, g3, g4⟩ := run_append_any (P := P) w base t ty e i z size bytes ht hi hz hsize hby hzs hsz v n xs hown B A m c news hr h1 h63 hbytes hbase
  refine ⟨v', w', g1, g2, g3, g4, fun h0 => ?_⟩
  subst h0
  have hn : news = [] := List.eq_nil_of_length_eq_zero (by simpa using hr.1)
  subst hn
  cases A with
  | none =>
    rw [run_append_of_nil w base t ty e i size ht hi v n xs hown c] at g1
    injection g1 with g1 _; exact g1.symm
  | some ad =>
    rcases hown.2 with ⟨rfl, rfl⟩ | ⟨g, cap, cur, rfl, hbg, hg, hnc, hcm, hcs, htake⟩
    · have : (Builtin.append_ #[t, t] ty #[.slice none 0 0, .slice (some ad) 0 c]).run P w = .ok (.slice none 0 0) w := by
        simp [Builtin.append_, run_underlying ht, sizeOf, typeInfo, hi, Builtin.lenOf, Builtin.firstCells, loadCells, loadCellsFrom]
      rw [this] at g1
      injection g1 with g1 _; exact g1.symm
    · have := run_append_room (P := P) w t ty e i ht hi g n cap cur hg ad 0 c [] (by simp) (fun j u h => by simp at h) (fun u h => by simp at h) (by omega) (by rw [hcs, hsize]; simp; exact Nat.mul_le_mul_right _ hnc)
      rw [this] at g1
      injection g1 with g1 _; exact g1.symm
theorem exec_append {o : Oper} {cl : Call} (ho : o.op = .call cl) {s x : Operand} {T : TypeId} (hcal : cl.callee = .builtin .append) (hargs : cl.args.toList = [s, x]) (htys : cl.argTypes.toList = [T, T]) (w : World) : (execOp a.eval o).run P w = (do pure (Next.value (← Builtin.append_ #[T, T] o.type #[a.eval s, a.eval x])) : Sem Next).run P w := by
  have ha : cl.args = #[s, x] := by rw [← Array.toList_inj]; simpa using hargs
  have ht : cl.argTypes = #[T, T] := by rw [← Array.toList_inj]; simpa using htys
  unfold execOp; rw [ho]
  simp only [resolve, hcal, ha, ht, Sem.run_bind, Sem.run_pure, Result.andThen_ok]
  simp [invoke, builtin]
theorem map_flat_append {t : Ty} (xs ys : List t.den) : ((xs ++ ys).map t.vals).flatten = (xs.map t.vals).flatten ++ (ys.map t.vals).flatten := by simp
theorem flat_cells_all {t : Ty} (ys : List t.den) : ∀ u ∈ (ys.map t.vals).flatten, u.oneCell' = true := by
  intro u hu
  obtain ⟨l, hl, hu⟩ := List.mem_flatten.1 hu
  obtain ⟨y, _, rfl⟩ := List.mem_map.1 hl
  exact Ty.vals_cell t y u hu
theorem sound_append_own (hΘ : ∀ t ti, Θ t = some ti → ti.ok P t) (h : RelW w0 get obj a W ρ β) {o : Oper} {cl : Call} (ho : o.op = .call cl) {s x : Operand} {T : TypeId} (hcal : cl.callee = .builtin .append) (hargs : cl.args.toList = [s, x]) (htys : cl.argTypes.toList = [T, T]) {ti : TI} (e0 : Θ T = some ti) {e : TypeId} {y t : Ty} {b : Nat} (hel : ti.el = some (e, y, b)) (hyt : y.sz = t.sz) (hf : t.flat = true) (hb : b ≤ 1000) {oo n : Nat} (hs : Rep (cxOf obj W ρ β) (.own oo n) (a.eval s)) {xs : List t.den} (hob : obj oo = .row e t xs) {av : AV} (hx : Rep (cxOf obj W ρ β) av (a.eval x)) {c : Prop} {ys : List t.den} {tch : List Nat} (hsrc : srcOf obj t av = some (c, ys, tch)) (hc : c) (hn : n = xs.length) (hbig : xs.length + ys.length ≤ 1000000000) :
    MemOut P w0 get obj a W o (.own oo (xs ++ ys).length) [(oo, .row e t (xs ++ ys))] := by
  obtain ⟨hu, i', z, hi', hz, hsi, hbb, hzs, h00, hdf⟩ := (hΘ _ _ e0).el e y b hel
  have hobj := h.objs oo
  rw [hob] at hobj
  obtain ⟨h1, h2⟩ := (ownL_flat hf).1 hobj
  have hlen : (obj oo).len = some xs.length := by rw [hob]; rfl
  have hln : (obj oo).len ≠ none := by rw [hlen]; simp
  obtain ⟨A, cp, g1, g2⟩ := src_sound h hf (by omega) hx hsrc hc
  have hv : a.eval s = ρ oo := by
    generalize hu' : a.eval s = u at hs
    cases hs with
    | own f1 f2 f3 f4 =>
      refine f4 ?_
      have : (obj oo).len = some _ := f1
      rw [hlen] at this; injection this with this; omega
  obtain ⟨v', w', f1, f2, f3, f4, f5⟩ := run_append_full (P := P) W w0.heap.size T o.type e i' z t.sz b hu hi' hz (by omega) hbb (by omega) (by omega) (ρ oo) xs.length _ h1 _ A ys.length cp _ g2 (flat_cells_all ys) (by unfold maxLen; omega) (by
    have : (xs.length + ys.length) * b ≤ 1000000000 * 1000 := Nat.mul_le_mul hbig hb
    omega) h.below.size
  have hrow : w'.ownsRow w0.heap.size e t.sz v' (xs ++ ys).length ((xs ++ ys).map t.vals).flatten := by rw [map_flat_append, List.length_append]; exact f2
  have hw := h.write (by rw [hob]; rfl) (o := oo) (W' := w') (obj' := setO obj oo (.row e t (xs ++ ys))) (ρ' := fun k => if k = oo then v' else ρ k) (β' := fun k => if k = oo then v'.ownBlock.toList else β k) (m := xs.length) (m' := (xs ++ ys).length) hlen (by rw [setO_same]; rfl) (by simp) (fun e => by
      simp only [if_true]
      exact f5 (by simp at e; rw [e]; rfl)) (fun o' ho' => ⟨setO_other ho', by simp [ho'], by simp [ho']⟩) f3 (fun bk hbk => by
      simp only [if_true, Option.mem_toList, Option.mem_def] at hbk
      refine ⟨?_, hrow.lt bk hbk⟩
      rcases f4 with f4 | f4
      · rw [f4] at hbk; left; rw [h2, hbk]; simp
      · rw [f4] at hbk; right; injection hbk with hbk; omega) (by
      simp only [if_true]
      cases v'.ownBlock <;> simp) (fun hk => by
      rw [setO_same]
      simp only [if_true]
      exact (ownL_flat hf).2 ⟨hrow, rfl⟩)
  refine ⟨.value v', w', _, _, ?_, .inr ⟨v', rfl, ?_⟩, hw.2⟩
  · rw [exec_append ho hcal hargs htys, hv, g1]
    exact run_v f1
  · refine .own (m := (xs ++ ys).length) ?_ (Nat.le_refl _) (own_hs hrow) (fun _ => by simp)
    show (setO obj oo _ oo).len = _
    rw [setO_same]; rfl
theorem sound_append_nil (hΘ : ∀ t ti, Θ t = some ti → ti.ok P t) (h : RelW w0 get obj a W ρ β) {o : Oper} {cl : Call} (ho : o.op = .call cl) {s x : Operand} {T : TypeId} (hcal : cl.callee = .builtin .append) (hargs : cl.args.toList = [s, x]) (htys : cl.argTypes.toList = [T, T]) {ti : TI} (e0 : Θ T = some ti) {e : TypeId} {t : Ty} {b : Nat} (hel : ti.el = some (e, t, b)) (hf : t.flat = true) (hb : b ≤ 1000) (hs : a.eval s = .slice none 0 0) {av : AV} (hx : Rep (cxOf obj W ρ β) av (a.eval x)) {c : Prop} {ys : List t.den} {tch : List Nat} (hsrc : srcOf obj t av = some (c, ys, tch)) (hc : c) (hbig : ys.length ≤ 1000000000) {nid : Nat} (hd : obj nid = .dead) :
    MemOut P w0 get obj a W o (.own nid ys.length) [(nid, .row e t ys)] := by
  obtain ⟨hu, i', z, hi', hz, hsi, hbb, hzs, h00, hdf⟩ := (hΘ _ _ e0).el e t b hel
  obtain ⟨A, cp, g1, g2⟩ := src_sound h hf h00 hx hsrc hc
  obtain ⟨v', w', f1, f2, f3, f4, f5⟩ := run_append_full (P := P) W W.heap.size T o.type e i' z t.sz b hu hi' hz hsi hbb hzs h00 (.slice none 0 0) 0 [] (World.ownsRow_nil W _ e t.sz) _ A ys.length cp _ g2 (flat_cells_all ys) (by unfold maxLen; omega) (by
    have : (0 + ys.length) * b ≤ 1000000000 * 1000 := Nat.mul_le_mul (by omega) hb
    omega) (Nat.le_refl _)
  rw [Nat.zero_add, List.nil_append] at f2
  have hbel : Below W.heap.size W w' := (Below.refl _ _).grown f3 (Nat.le_refl _) (fun k hk => by simp [Value.ownBlock] at hk)
  obtain ⟨ρ', β', e1, hle, h2⟩ := h.new1 (len_dead hd) (x := .row e t ys) (W' := w') (v := v') (bs := v'.ownBlock.toList) hbel (by simp [AO.len])
    (fun C' hle hW => (ownL_flat hf).2 ⟨by rw [hW]; exact f2, rfl⟩) (by cases v'.ownBlock <;> simp) (fun bk hbk => by
      simp only [Option.mem_toList, Option.mem_def] at hbk
      exact f2.lt bk hbk)
  refine ⟨.value v', w', ρ', β', ?_, .inr ⟨v', rfl, ?_⟩, h2⟩
  · rw [exec_append ho hcal hargs htys, hs, g1]
    exact run_v f1
  · refine .own (m := ys.length) ?_ (Nat.le_refl _) (own_hs f2) (fun _ => e1.symm)
    show (setO obj nid _ nid).len = _
    rw [setO_same]; rfl
/-- all of them -/
theorem mem_sound (hΘ : ∀ t ti, Θ t = some ti → ti.ok P t) (h : RelW w0 get obj a W ρ β) {ev : Operand → Option AV} (hev : ∀ x v, ev x = some v → Rep (cxOf obj W ρ β) v (a.eval x)) (o : Oper) {nid : Nat} {c : Prop} {x : AV} {eff : List (Nat × AO)} {tch : List Nat} (hm : memOp Θ ev obj nid o.op = some (c, x, eff, tch)) (hc : c) : MemOut P w0 get obj a W o x eff := by
  unfold memOp at hm
  split at hm
  · rename_i T ho
    split at hm
    · rename_i ti e0 hd
      cases hm
      exact sound_alloc hΘ h ho e0 hd
    · cases hm
  · rename_i T y ho
    split at hm
    · rename_i cs hb hd
      cases hm
      rw [Option.bind_eq_some_iff] at hb
      obtain ⟨v, g1, g2⟩ := hb
      exact sound_box h ho (hev _ _ g1) g2 hd
    · cases hm
  · rename_i T p ho
    split at hm
    · rename_i ti cs e0 e1
      cases hl : loadAV ti cs with
      | none => rw [hl] at hm; cases hm
      | some v => rw [hl] at hm; cases hm; exact sound_load_rp hΘ h ho e0 (hev _ _ e1) hl
    · rename_i ti b off e0 e1
      split at hm
      · rename_i e cs hob
        cases hl : loadAV ti (cs.drop off) with
        | none => rw [hl] at hm; cases hm
        | some v => rw [hl] at hm; cases hm; exact sound_load_box hΘ h ho e0 (hev _ _ e1) hob hl
      · cases hm
    · rename_i ti b n sz k off e0 e1
      split at hm
      · rename_i e t xs hob
        split at hm
        · rename_i hf
          obtain ⟨hf, rfl⟩ := hf
          cases hl : loadAV ti ((t.cells (xs.getD k t.dflt)).drop off) with
          | none => rw [hl] at hm; cases hm
          | some v => rw [hl] at hm; cases hm; exact sound_load_elt hΘ h ho e0 (hev _ _ e1) hf hob hc.1 hc.2 hl
        · cases hm
      · cases hm
    · cases hm
  · rename_i T p y ho
    split at hm
    · rename_i ti b off vs e0 e1 e2
      rw [Option.bind_eq_some_iff] at e2
      obtain ⟨v, g1, g2⟩ := e2
      split at hm
      · rename_i e cs hob
        split at hm
        · rename_i hcond
          cases hm
          exact sound_store_box hΘ h ho e0 (hev _ _ e1) hob (hev _ _ g1) g2 hcond.1 hcond.2.1 hcond.2.2
        · cases hm
      · cases hm
    · rename_i ti b n sz k off vs e0 e1 e2
      rw [Option.bind_eq_some_iff] at e2
      obtain ⟨v, g1, g2⟩ := e2
      split at hm
      · rename_i e t xs hob
        split at hm
        · rename_i hcond
          obtain ⟨hf, rfl, hc1, hc2, hc3⟩ := hcond
          cases hz : t.ofC ((t.cells (xs.getD k t.dflt)).take off ++ vs ++ (t.cells (xs.getD k t.dflt)).drop (off + vs.length)) with
          | none => rw [hz] at hm; cases hm
          | some z => rw [hz] at hm; cases hm; exact sound_store_elt hΘ h ho e0 (hev _ _ e1) hf hob hc.1 hc.2 (hev _ _ g1) g2 hc1 hc2 hc3 hz
        · cases hm
      · cases hm
    · cases hm
  · rename_i T n parts ho
    split at hm
    · rename_i ti rows e0 hr hd
      split at hm
      · rename_i e y b hel
        split at hm
        · rename_i hcond
          split at hm
          · rename_i xs hxs
            cases hm
            exact sound_buildSlice hΘ h hev ho e0 hel hr hcond.1 hcond.2.1 hcond.2.2 hd (.inr ⟨xs, hxs, rfl⟩)
          · cases hm
            exact sound_buildSlice hΘ h hev ho e0 hel hr hcond.1 hcond.2.1 hcond.2.2 hd (.inl rfl)
        · cases hm
      · cases hm
    · cases hm
  · rename_i T l c' ho
    split at hm
    · rename_i ti k1 i k2 j e0 e1 e2 hd
      split at hm
      · rename_i e y b hel
        split at hm
        · rename_i hb
          cases hm
          obtain ⟨rfl, h0, h1⟩ := hc
          exact sound_makeSlice hΘ h ho e0 hel (hev _ _ e1).lit_eq (hev _ _ e2).lit_eq hb h0 h1 hd
        · cases hm
      · cases hm
    · cases hm
  · rename_i cl ho
    split at hm
    · rename_i s x T T' hcal hargs htys
      split at hm
      · rename_i hTT
        subst hTT
        split at hm
        · rename_i ti oo n src e0 e1 e2
          split at hm
          · rename_i e' y b e t xs hel hob
            split at hm
            · rename_i hcond
              obtain ⟨hf, hb, rfl, hyt⟩ := hcond
              cases hs : srcOf obj t src with
              | none => rw [hs] at hm; cases hm
              | some r =>
                rw [hs] at hm; cases hm
                obtain ⟨r1, ys, tc⟩ := r
                exact sound_append_own hΘ h ho hcal hargs htys e0 hel hyt hf hb (hev _ _ e1) hob (hev _ _ e2) hs hc.2.1 hc.1 hc.2.2
            · cases hm
          · cases hm
        · rename_i ti src e0 e1 e2
          split at hm
          · rename_i e y b hel hd
            split at hm
            · rename_i hcond
              cases hs : srcOf obj y src with
              | none => rw [hs] at hm; cases hm
              | some r =>
                rw [hs] at hm; cases hm
                obtain ⟨r1, ys, tc⟩ := r
                exact sound_append_nil hΘ h ho hcal hargs htys e0 hel hcond.1 hcond.2 (hev _ _ e1).lit_eq (hev _ _ e2) hs hc.1 hc.2 hd
            · cases hm
          · cases hm
        · cases hm
      · cases hm
    · cases hm
  · cases hm
end
end Go.Proofs.Ytgnnmifpfgpllaa
