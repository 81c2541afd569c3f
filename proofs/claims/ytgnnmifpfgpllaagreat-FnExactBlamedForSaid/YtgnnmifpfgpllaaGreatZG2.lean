import Derived.Test.YtgnnmifpfgpllaaGreatZAO
import Derived.Test.YtgnnmifpfgpllaaGreatZB4
import Derived.Test.YtgnnmifpfgpllaaGreatZMath9
import Derived.Shelf.SortM.Plain
import Derived.Shelf.SortM.SortNone
import Derived.Shelf.SlicesE.Compact
import Derived.Sort.OwnSortedInts
import Derived.Lib.OwnBridge
/- Own slices of ints that the library's slices.Sort and slices.Compact turn. -/
set_option linter.all false
set_option linter.unusedVariables false
set_option linter.unusedSimpArgs false
namespace Go.Proofs.YtgnnmifpfgpllaaGreat
open Go.RowKit
/-- slices.Sort of an own row of ints -/
def Con.srt : Con where
  run _ h args := match args with
    | [.own o n] => match h o with
      | .row e .int xs => some (n = xs.length ∧ xs.length ≤ 1000000, .lit (.tuple #[]), [(o, .row e .int (M.srtL xs))], [o])
      | _ => none
    | _ => none
  congr nid h h' args r hs hh := by
    revert hs
    split
    · rename_i o n
      split
      · rename_i e xs h1
        intro hs; cases hs
        rw [← hh o (by simp), h1]
      · intro hs; cases hs
    · intro hs; cases hs
/-- slices.Compact of an own row of ints -/
def Con.cpt (T : TypeId) : Con where
  run nid h args := match args with
    | [.own o n] => match h o, h nid with
      | .row e .int xs, .dead => some (n = xs.length ∧ e = T ∧ xs.length ≤ 1000000, .own nid (M.cptL xs).length, [(nid, .row e .int (M.cptL xs)), (o, .gone n)], [nid, o])
      | _, _ => none
    | _ => none
  congr nid h h' args r hs hh := by
    revert hs
    split
    · rename_i o n
      split
      · rename_i e xs h1 h2
        intro hs; cases hs
        rw [← hh o (by simp), ← hh nid (by simp), h1, h2]
      · intro hs; cases hs
    · intro hs; cases hs
theorem flat_intsS (xs : List Int) : (xs.map (Ty.vals .int)).flatten = xs.map (Value.int .i64) := by
  induction xs with
  | nil => rfl
  | cons x xs ih => simp only [List.map_cons, List.flatten_cons, ih]; rfl
section
variable {P : Program} {ρ : Go.Shelf.Ren}
theorem okSrt (L : SlLaysM.n5 P ρ) (hent : ∀ args w, (callFunc (ρ.f 5) args).run P w = .ok (.enter (ρ.f 5) args) w) : Con.srt.ok P (ρ.f 5) := by
  refine ⟨hent, fun w0 get obj a W ρ0 β h nid args c x eff tch hm hc vs hv => ?_⟩
  simp only [Con.srt] at hm
  split at hm
  rotate_left
  · cases hm
  rename_i o n
  split at hm
  rotate_left
  · cases hm
  rename_i e xs hob
  cases hm
  obtain ⟨hn, hl⟩ := hc
  obtain ⟨v1, vs, rfl, r1, hv⟩ := hv.cons_of
  obtain rfl := hv.nil_of
  obtain ⟨hu, hown⟩ := h.whole hob hn r1
  subst hu hn
  obtain ⟨g1, g2⟩ := (ownL_flat (t := .int) rfl).1 hown
  rw [flat_intsS] at g1
  by_cases hx : xs = []
  · subst hx
    obtain ⟨A, cc, e1, _, _⟩ := own_hs g1
    rw [e1]
    refine (AnyM.slices_Sort_int_none L A cc W).mono ?_
    rintro en w' ⟨rfl, rfl⟩
    have hset : setE obj [(o, .row e .int (M.srtL []))] = obj := by
      funext k
      simp only [setE, setO]
      split
      · rename_i hk; subst hk; rw [hob, show M.srtL [] = [] from by simp [M.srtL]]
      · rfl
    rw [hset]
    exact ⟨_, ρ0, β, rfl, .lit _, h⟩
  · have hpos : 0 < xs.length := List.length_pos_iff.2 hx
    have hne : ρ0 o ≠ .slice none 0 0 := by
      intro e0
      rcases g1.2 with ⟨_, hz⟩ | ⟨g, cap, cur, hv, _⟩
      · omega
      · rw [e0] at hv; cases hv
    obtain ⟨g, cap, hvo, hbase, hlt, hncap, hcapm, hll, hH⟩ := Lib.holds_of_ownsRow (enc := Value.int .i64) g1 hne
    have hcall := AnyM.slices_Sort_int L g 0 cap xs W hH hlt (by omega)
    rw [hvo]
    refine hcall.mono ?_
    rintro en w' ⟨rfl, q, os, rfl⟩
    have hyl : (M.srtL xs).length = xs.length := M.srtL_len
    have hgr : W.grownBy (Sort.grow (Sort.putRow (Value.int .i64) (Sort.ahead W q) g 0 (M.srtL xs).toArray) os) (some g) := grownBy_sortedI _
    have hrow : (Sort.grow (Sort.putRow (Value.int .i64) (Sort.ahead W q) g 0 (M.srtL xs).toArray) os).ownsRow w0.heap.size e 1 (.slice (some ⟨g, 0, none⟩) xs.length cap) xs.length ((M.srtL xs).map (Value.int .i64)) := by
      rw [hvo] at g1
      rcases g1.2 with ⟨e0, _⟩ | ⟨g', cap', cur, e0, hb, hg, hn, hm, hs, ht⟩
      · cases e0
      · injection e0 with e1 _ e3
        injection e1 with e1
        injection e1 with e1
        subst e1 e3
        exact ownsRow_sortedI hyl hb hg hn hm hs
    have hob' : ownL (Sort.grow (Sort.putRow (Value.int .i64) (Sort.ahead W q) g 0 (M.srtL xs).toArray) os) w0.heap.size e .int (M.srtL xs) (ρ0 o) (β o) := by
      refine (ownL_flat (t := .int) rfl).2 ⟨?_, g2⟩
      rw [flat_intsS, hvo, hyl]
      exact hrow
    have hbo : β o = [g] := by rw [g2, hvo]; rfl
    have htouch := h.touch (l := [(o, .row e .int (M.srtL xs))]) (W' := Sort.grow (Sort.putRow (Value.int .i64) (Sort.ahead W q) g 0 (M.srtL xs).toArray) os) (fun p hp => by
      simp only [List.mem_singleton] at hp; subst hp
      exact ⟨⟨e, .int, M.srtL xs, rfl, hob'⟩, xs.length, by rw [hob]; rfl, by simp [AO.len, hyl]⟩) (us := [.slice (some ⟨g, 0, none⟩) xs.length cap]) (Touch.of_grown (v := .slice (some ⟨g, 0, none⟩) xs.length cap) hgr (List.mem_singleton.2 rfl)) fun k hk hkp => hgr.block k hk fun e' => hkp (o, .row e .int (M.srtL xs)) (List.mem_singleton.2 rfl) (by
        injection e' with e'
        show k ∈ β o
        rw [hbo, ← e']; simp)
    exact ⟨_, ρ0, β, rfl, .lit _, htouch.2⟩
theorem cptL_short {xs : List Int} (h : xs.length < 2) : M.cptL xs = xs := by
  match xs with
  | [] => rfl
  | [x] => simp [M.cptL, Go.Lib.compactUpTo, Go.Lib.keeps, List.range_succ]
  | _ :: _ :: _ => simp at h; omega
theorem okCpt {T : TypeId} (L : SlLaysE.n43 P ρ) (v23 : ∀ w, (zeroValue (ρ.t 23)).run P w = .ok (.int .i64 0) w) (hent : ∀ args w, (callFunc (ρ.f 43) args).run P w = .ok (.enter (ρ.f 43) args) w)
    (h2 : ∀ (xs : List Int), xs.length < 2 → ∀ {w0 : World} {get : Nat → Option AV} {obj : Nat → AO} {a : Act} {W : World} {ρ1 : Nat → Value} {β : Nat → List Nat}, RelW w0 get obj a W ρ1 β → ∀ {o : Nat}, obj o = .row T .int xs → Calls P (ρ.f 43) (ρ1 o :: []).toArray W fun en w' => ∃ ρ' β', en = .returned (ρ1 o) ∧ Rep (cxOf obj w' ρ' β') (.own o xs.length) (ρ1 o) ∧ RelW w0 get obj a w' ρ' β') : (Con.cpt T).ok P (ρ.f 43) := by
  refine ⟨hent, fun w0 get obj a W ρ0 β h nid args c x eff tch hm hc vs hv => ?_⟩
  simp only [Con.cpt] at hm
  split at hm
  rotate_left
  · cases hm
  rename_i o n
  split at hm
  rotate_left
  · cases hm
  rename_i e xs hob hdead
  cases hm
  obtain ⟨hn, rfl, hl⟩ := hc
  obtain ⟨v1, vs, rfl, r1, hv⟩ := hv.cons_of
  obtain rfl := hv.nil_of
  obtain ⟨hu, hown⟩ := h.whole hob hn r1
  subst hu hn
  have hon : o ≠ nid := fun e' => by rw [e', hdead] at hob; cases hob
  by_cases hx : xs.length < 2
  · refine (h2 xs hx h hob).mono ?_
    rintro en w' ⟨ρ', β', rfl, k1, k2⟩
    obtain ⟨A, c, ρ2, β2, f1, f2, f3⟩ := k2.cut (oo := o) (n := xs.length) hob rfl rfl (k0 := xs.length) (Nat.le_refl _) (nid := nid) hdead
    have e1 := (k2.whole hob rfl k1).1
    rw [List.take_length] at f2 f3
    rw [cptL_short hx]
    refine ⟨_, ρ2, β2, rfl, ?_, f2⟩
    rw [e1, f1]; exact f3
  · obtain ⟨g1, g2⟩ := (ownL_flat (t := .int) rfl).1 hown
    rw [flat_intsS] at g1
    have hne : ρ0 o ≠ .slice none 0 0 := by
      intro e0
      rcases g1.2 with ⟨_, hz⟩ | ⟨g, cap, cur, hv, _⟩
      · omega
      · rw [e0] at hv; cases hv
    obtain ⟨g, cap, hvo, hbase, hlt, hncap, hcapm, hll, hH⟩ := Lib.holds_of_ownsRow (enc := Value.int .i64) g1 hne
    have hcm : cap ≤ 9223372036854775807 := by unfold maxLen at hcapm; omega
    have hcall := AnyE.slices_Compact L (Value.int .i64) (fun _ => rfl) (EqlAt.intD _ _ _) (NeqAt.intD _ _ _) 0 v23 g 0 cap xs.toArray W hH (by simp; omega) (by simpa using hncap)
    rw [hvo]
    have hsz : xs.toArray.size = xs.length := by simp
    rw [show ([.slice (some ⟨g, 0, none⟩) xs.length cap] : List Value).toArray = #[.slice (some ⟨g, 0, none⟩) xs.toArray.size cap] by rw [hsz]]
    refine hcall.mono ?_
    rintro en w' ⟨rfl, q, rfl⟩
    obtain ⟨ys, hys⟩ : ∃ ys : List Int, ys = M.cptL xs ++ List.replicate (xs.toArray.size - (M.cptL xs).length) 0 := ⟨_, rfl⟩
    have hcl := M.cptL_len xs
    have hyl : ys.length = xs.length := by rw [hys, List.length_append, List.length_replicate, hsz]; omega
    have g1' := g1
    rw [hvo] at g1'
    have hrow := Lib.ownsRow_putRow (q := q) (k := xs.length) (ys := ys) g1' hyl (Nat.le_refl _)
    rw [List.take_of_length_le (by omega)] at hrow
    have hob' : ownL (Sort.putRow (Value.int .i64) (Sort.ahead W q) g 0 ys.toArray) w0.heap.size e .int ys (ρ0 o) (β o) := by
      refine (ownL_flat (t := .int) rfl).2 ⟨?_, g2⟩
      rw [flat_intsS, hvo, hyl]
      exact hrow
    have hbo : β o = [g] := by rw [g2, hvo]; rfl
    have htouch := h.touch (l := [(o, .row e .int ys)]) (W' := Sort.putRow (Value.int .i64) (Sort.ahead W q) g 0 ys.toArray) (fun p hp => by
      simp only [List.mem_singleton] at hp; subst hp
      exact ⟨⟨e, .int, ys, rfl, hob'⟩, xs.length, by rw [hob]; rfl, by simp [AO.len, hyl]⟩) (us := [.slice (some ⟨g, 0, none⟩) xs.length cap]) ⟨rfl, rfl, rfl, by simp [Sort.putRow, Sort.mapBlock, Sort.ahead], fun k hk hne' => by
        have : g ≠ k := fun e' => hne' (.slice (some ⟨g, 0, none⟩) xs.length cap) (List.mem_singleton.2 rfl) (by rw [← e']; rfl)
        simp [Sort.putRow, Sort.mapBlock, Sort.ahead, Array.getElem?_modify, this]⟩ fun k hk hkp => by
        have : g ≠ k := fun e' => hkp (o, .row e .int ys) (List.mem_singleton.2 rfl) (by rw [hbo, e']; simp)
        simp [Sort.putRow, Sort.mapBlock, Sort.ahead, Array.getElem?_modify, this]
    have hob2 : setE obj [(o, .row e .int ys)] o = .row e .int ys := by simp [setE, setO]
    have hd2 : setE obj [(o, .row e .int ys)] nid = .dead := by simp [setE, setO, hdead, Ne.symm hon]
    obtain ⟨A, c, ρ', β', f1, f2, f3⟩ := htouch.2.cut (oo := o) (n := xs.length) hob2 rfl hyl.symm (k0 := (M.cptL xs).length) (by omega) (nid := nid) hd2
    rw [hvo] at f1
    have hcut : ys.take (M.cptL xs).length = M.cptL xs := by
      rw [hys, List.take_left]
    rw [hcut] at f2 f3
    have hset : setE (setE obj [(o, .row e .int ys)]) [(nid, .row e .int (M.cptL xs)), (o, .gone xs.length)] = setE obj [(nid, .row e .int (M.cptL xs)), (o, .gone xs.length)] := by
      funext k
      simp only [setE, setO]
      split
      · rfl
      · split <;> rfl
    rw [hset] at f2 f3
    simp only [Value.slice.injEq] at f1
    obtain ⟨rfl, _, rfl⟩ := f1
    subst hys
    exact ⟨_, ρ', β', rfl, f3, f2⟩
end
def ρSrt : Go.Shelf.Ren := ⟨fun | 5 => 39 | 8 => 64 | 7 => 63 | 19 => 99 | 20 => 100 | 10 => 90 | 11 => 91 | 12 => 92 | 13 => 93 | 14 => 94 | 15 => 95 | 16 => 96 | 17 => 97 | 18 => 98 | 30 => 120 | 31 => 121 | 32 => 122 | 33 => 123 | 34 => 124 | 35 => 125 | 40 => 141 | n => n, fun | 23 => 24 | 25 => 3 | 3 => 3 | 32 => 98 | 22 => 24 | 0 => 0 | 44 => 123 | 46 => 125 | 4 => 4 | 36 => 116 | 35 => 115 | 41 => 43 | 5 => 5 | 9 => 9 | 53 => 135 | 57 => 139 | 63 => 149 | 64 => 150 | n => n, fun n => n⟩
set_option maxRecDepth 100000 in
theorem lays_Srt : SlLaysM.n5 Tryz.prog ρSrt where
  mixed := by kernel_rfl
  f5 := ⟨(Tryz.f39).name, by kernel_rfl, Tryz.func39.trans (congrArg some (by kernel_rfl))⟩
  f7 := ⟨(Tryz.f63).name, by kernel_rfl, Tryz.func63.trans (congrArg some (by kernel_rfl))⟩
  f8 := Tryz.func64.trans (congrArg some (by kernel_rfl))
  f10 := ⟨(Tryz.f90).name, by kernel_rfl, Tryz.func90.trans (congrArg some (by kernel_rfl))⟩
  f11 := ⟨(Tryz.f91).name, by kernel_rfl, Tryz.func91.trans (congrArg some (by kernel_rfl))⟩
  f12 := ⟨(Tryz.f92).name, by kernel_rfl, Tryz.func92.trans (congrArg some (by kernel_rfl))⟩
  f13 := ⟨(Tryz.f93).name, by kernel_rfl, Tryz.func93.trans (congrArg some (by kernel_rfl))⟩
  f14 := ⟨(Tryz.f94).name, by kernel_rfl, Tryz.func94.trans (congrArg some (by kernel_rfl))⟩
  f15 := ⟨(Tryz.f95).name, by kernel_rfl, Tryz.func95.trans (congrArg some (by kernel_rfl))⟩
  f16 := ⟨(Tryz.f96).name, by kernel_rfl, Tryz.func96.trans (congrArg some (by kernel_rfl))⟩
  f17 := ⟨(Tryz.f97).name, by kernel_rfl, Tryz.func97.trans (congrArg some (by kernel_rfl))⟩
  f18 := ⟨(Tryz.f98).name, by kernel_rfl, Tryz.func98.trans (congrArg some (by kernel_rfl))⟩
  f19 := Tryz.func99.trans (congrArg some (by kernel_rfl))
  f20 := Tryz.func100.trans (congrArg some (by kernel_rfl))
  f30 := ⟨(Tryz.f120).name, by kernel_rfl, Tryz.func120.trans (congrArg some (by kernel_rfl))⟩
  f31 := Tryz.func121.trans (congrArg some (by kernel_rfl))
  f32 := Tryz.func122.trans (congrArg some (by kernel_rfl))
  f33 := ⟨(Tryz.f123).name, by kernel_rfl, Tryz.func123.trans (congrArg some (by kernel_rfl))⟩
  f34 := ⟨(Tryz.f124).name, by kernel_rfl, Tryz.func124.trans (congrArg some (by kernel_rfl))⟩
  f35 := ⟨(Tryz.f125).name, by kernel_rfl, Tryz.func125.trans (congrArg some (by kernel_rfl))⟩
  f40 := ⟨(Tryz.f141).name, by kernel_rfl, Tryz.func141.trans (congrArg some (by kernel_rfl))⟩
  t0 := Tryz.underlying0
  a0 := Tryz.isAgg0
  z0 := Tryz.sizeOf0
  v0 := Tryz.zeroValue0
  t3 := Tryz.underlying3
  a3 := Tryz.isAgg3
  z3 := Tryz.sizeOf3
  v3 := Tryz.zeroValue3
  t4 := Tryz.underlying4
  a4 := Tryz.isAgg4
  z4 := Tryz.sizeOf4
  v4 := Tryz.zeroValue4
  t5 := Tryz.underlying5
  a5 := Tryz.isAgg5
  z5 := Tryz.sizeOf5
  v5 := Tryz.zeroValue5
  t9 := Tryz.underlying9
  a9 := Tryz.isAgg9
  z9 := Tryz.sizeOf9
  v9 := Tryz.zeroValue9
  t22 := Tryz.underlying24
  a22 := Tryz.isAgg24
  z22 := Tryz.sizeOf24
  v22 := Tryz.zeroValue24
  t23 := Tryz.underlying24
  a23 := Tryz.isAgg24
  z23 := Tryz.sizeOf24
  v23 := Tryz.zeroValue24
  t25 := Tryz.underlying3
  a25 := Tryz.isAgg3
  z25 := Tryz.sizeOf3
  v25 := Tryz.zeroValue3
  t32 := Tryz.underlying98
  a32 := Tryz.isAgg98
  z32 := Tryz.sizeOf98
  v32 := Tryz.zeroValue98
  t35 := Tryz.underlying115
  a35 := Tryz.isAgg115
  z35 := Tryz.sizeOf115
  v35 := Tryz.zeroValue115
  t36 := Tryz.underlying116
  a36 := Tryz.isAgg116
  z36 := Tryz.sizeOf116
  v36 := Tryz.zeroValue116
  t41 := Tryz.underlying43
  a41 := Tryz.isAgg43
  z41 := Tryz.sizeOf43
  v41 := Tryz.zeroValue43
  t44 := Tryz.underlying123
  a44 := Tryz.isAgg123
  z44 := Tryz.sizeOf123
  v44 := Tryz.zeroValue123
  t46 := Tryz.underlying125
  a46 := Tryz.isAgg125
  z46 := Tryz.sizeOf125
  v46 := Tryz.zeroValue125
  t53 := Tryz.underlying135
  a53 := Tryz.isAgg135
  z53 := Tryz.sizeOf135
  v53 := Tryz.zeroValue135
  t57 := Tryz.underlying139
  a57 := Tryz.isAgg139
  z57 := Tryz.sizeOf139
  v57 := Tryz.zeroValue139
  t63 := Tryz.underlying149
  a63 := Tryz.isAgg149
  z63 := Tryz.sizeOf149
  v63 := Tryz.zeroValue149
  t64 := Tryz.underlying150
  a64 := Tryz.isAgg150
  z64 := Tryz.sizeOf150
  v64 := Tryz.zeroValue150
def ρCpt : Go.Shelf.Ren := ⟨fun | 43 => 40 | n => n, fun | 22 => 24 | 23 => 3 | 3 => 3 | 4 => 4 | 0 => 0 | n => n, fun n => n⟩
set_option maxRecDepth 100000 in
theorem lays_Cpt : SlLaysE.n43 Tryz.prog ρCpt where
  mixed := by kernel_rfl
  f43 := ⟨(Tryz.f40).name, by kernel_rfl, Tryz.func40.trans (congrArg some (by kernel_rfl))⟩
  t0 := Tryz.underlying0
  a0 := Tryz.isAgg0
  z0 := Tryz.sizeOf0
  v0 := Tryz.zeroValue0
  t3 := Tryz.underlying3
  a3 := Tryz.isAgg3
  z3 := Tryz.sizeOf3
  v3 := Tryz.zeroValue3
  t4 := Tryz.underlying4
  a4 := Tryz.isAgg4
  z4 := Tryz.sizeOf4
  v4 := Tryz.zeroValue4
  t22 := Tryz.underlying24
  a22 := Tryz.isAgg24
  z22 := Tryz.sizeOf24
  v22 := Tryz.zeroValue24
  a23 := Tryz.isAgg3
  z23 := Tryz.sizeOf3
def c_w_Sort : Con := Con.srt
def sel_w_Sort : Nat := 0
theorem ok_w_Sort : c_w_Sort.ok Tryz.prog 39 := okSrt (ρ := ρSrt) lays_Srt (enter_of Tryz.func39 (by kernel_rfl) (by kernel_rfl))
end Go.Proofs.YtgnnmifpfgpllaaGreat
