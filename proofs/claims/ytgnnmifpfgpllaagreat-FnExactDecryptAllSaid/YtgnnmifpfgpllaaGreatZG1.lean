import Derived.Test.YtgnnmifpfgpllaaGreatZAL
import Derived.Test.YtgnnmifpfgpllaaGreatZB4
import Derived.Shelf.SlicesE.Delete
import Derived.Lib.OwnBridge
/- Own slices of ints that the library's slices.Delete cuts. -/
set_option linter.all false
set_option linter.unusedVariables false
set_option linter.unusedSimpArgs false
namespace Go.Proofs.YtgnnmifpfgpllaaGreat
open Go.RowKit
/-- slices.Delete of an own row of ints -/
def Con.del : Con where
  run nid h args := match args with
    | [.own o n, .lit (.int .i64 i), .lit (.int .i64 j)] => match h o, h nid with
      | .row e .int xs, .dead => some (n = xs.length ∧ 0 ≤ i ∧ i ≤ j ∧ j ≤ n ∧ 0 < n, .own nid (n - (j.toNat - i.toNat)), [(nid, .row e .int (xs.take i.toNat ++ xs.drop j.toNat)), (o, .gone n)], [nid, o])
      | _, _ => none
    | _ => none
  congr nid h h' args r hs hh := by
    revert hs
    split
    · rename_i o n i j
      split
      · rename_i e xs h1 h2
        intro hs; cases hs
        rw [← hh o (by simp), ← hh nid (by simp), h1, h2]
      · intro hs; cases hs
    · intro hs; cases hs
section
variable {P : Program} {ρ : Go.Shelf.Ren}
theorem flat_intsV (xs : List Int) : (xs.map (Ty.vals .int)).flatten = xs.map (Value.int .i64) := by
  induction xs with
  | nil => rfl
  | cons x xs ih => simp only [List.map_cons, List.flatten_cons, ih]; rfl
theorem Con.del_ok (L : SlLaysE.n45 P ρ) (v23 : ∀ w, (zeroValue (ρ.t 23)).run P w = .ok (.int .i64 0) w) (i0 : TypeInfo) (hi0 : P.info? (ρ.t 23) = some i0) (hz1 : i0.size = 1) (hent : ∀ args w, (callFunc (ρ.f 45) args).run P w = .ok (.enter (ρ.f 45) args) w) : Con.del.ok P (ρ.f 45) := by
  refine ⟨hent, fun w0 get obj a W ρ0 β h nid args c x eff tch hm hc vs hv => ?_⟩
  simp only [Con.del] at hm
  split at hm
  rotate_left
  · cases hm
  rename_i o n i j
  split at hm
  rotate_left
  · cases hm
  rename_i e xs hob hdead
  cases hm
  obtain ⟨hn, h0, hij, hjn, hpos⟩ := hc
  obtain ⟨v1, vs, rfl, r1, hv⟩ := hv.cons_of
  obtain ⟨v2, vs, rfl, r2, hv⟩ := hv.cons_of
  obtain ⟨v3, vs, rfl, r3, hv⟩ := hv.cons_of
  obtain rfl := hv.nil_of
  obtain rfl := r2.lit_eq
  obtain rfl := r3.lit_eq
  obtain ⟨hu, hown⟩ := h.whole hob hn r1
  subst hu
  obtain ⟨g1, g2⟩ := (ownL_flat (t := .int) rfl).1 hown
  rw [flat_intsV] at g1
  have hne : ρ0 o ≠ .slice none 0 0 := by
    intro e0
    rcases g1.2 with ⟨_, hz⟩ | ⟨g, cap, cur, hv, _⟩
    · omega
    · rw [e0] at hv; cases hv
  obtain ⟨g, cap, hvo, hbase, hlt, hncap, hcapm, hl, hH⟩ := Lib.holds_of_ownsRow (enc := Value.int .i64) g1 hne
  have hcm : cap ≤ 9223372036854775807 := by unfold maxLen at hcapm; omega
  have hcall := AnyE.slices_Delete L (Value.int .i64) (fun _ => rfl) 0 v23 i0 hi0 hz1 g 0 cap i.toNat j.toNat xs.toArray W hH (by simpa using hncap) hcm (by omega) (by simp; omega)
  rw [hvo]
  have ei : Value.int .i64 i = .int .i64 (i.toNat : Nat) := by congr 1; omega
  have ej : Value.int .i64 j = .int .i64 (j.toNat : Nat) := by congr 1; omega
  have hsz : xs.toArray.size = xs.length := by simp
  rw [hsz] at hcall
  rw [show ([.slice (some ⟨g, 0, none⟩) xs.length cap, .int .i64 i, .int .i64 j] : List Value).toArray = #[.slice (some ⟨g, 0, none⟩) xs.length cap, .int .i64 (i.toNat : Nat), .int .i64 (j.toNat : Nat)] by rw [← ei, ← ej]]
  refine hcall.mono ?_
  rintro en w' ⟨rfl, q, rfl⟩
  obtain ⟨ys, hys⟩ : ∃ ys : List Int, ys = xs.take i.toNat ++ xs.drop j.toNat ++ List.replicate (j.toNat - i.toNat) 0 := ⟨_, rfl⟩
  have hyl : ys.length = xs.length := by rw [hys]; simp; omega
  have g1' := g1
  rw [hvo] at g1'
  have hrow := Lib.ownsRow_putRow (q := q) (k := xs.length) (ys := ys) g1' hyl (Nat.le_refl _)
  rw [List.take_of_length_le (by omega)] at hrow
  have hob' : ownL (Sort.putRow (Value.int .i64) (Sort.ahead W q) g 0 ys.toArray) w0.heap.size e .int ys (ρ0 o) (β o) := by
    refine (ownL_flat (t := .int) rfl).2 ⟨?_, g2⟩
    rw [flat_intsV, hvo, hyl]
    exact hrow
  have hbo : β o = [g] := by rw [g2, hvo]; rfl
  have htouch := h.touch (l := [(o, .row e .int ys)]) (W' := Sort.putRow (Value.int .i64) (Sort.ahead W q) g 0 ys.toArray) (fun p hp => by
    simp only [List.mem_singleton] at hp; subst hp
    exact ⟨⟨e, .int, ys, rfl, hob'⟩, xs.length, by rw [hob]; rfl, by simp [AO.len, hyl]⟩) (us := [.slice (some ⟨g, 0, none⟩) xs.length cap]) ⟨rfl, rfl, rfl, by simp [Sort.putRow, Sort.mapBlock, Sort.ahead], fun k hk hne' => by
      have : g ≠ k := fun e' => hne' (.slice (some ⟨g, 0, none⟩) xs.length cap) (List.mem_singleton.2 rfl) (by rw [← e']; rfl)
      simp [Sort.putRow, Sort.mapBlock, Sort.ahead, Array.getElem?_modify, this]⟩ fun k hk hkp => by
      have : g ≠ k := fun e' => hkp (o, .row e .int ys) (List.mem_singleton.2 rfl) (by rw [hbo, e']; simp)
      simp [Sort.putRow, Sort.mapBlock, Sort.ahead, Array.getElem?_modify, this]
  have hon : o ≠ nid := fun e' => by rw [e', hdead] at hob; cases hob
  have hob2 : setE obj [(o, .row e .int ys)] o = .row e .int ys := by simp [setE, setO]
  have hd2 : setE obj [(o, .row e .int ys)] nid = .dead := by simp [setE, setO, hdead, Ne.symm hon]
  obtain ⟨A, c, ρ', β', f1, f2, f3⟩ := htouch.2.cut (oo := o) (n := xs.length) hob2 rfl hyl.symm (k0 := xs.length - (j.toNat - i.toNat)) (by omega) (nid := nid) hd2
  rw [hvo] at f1
  have hcut : ys.take (xs.length - (j.toNat - i.toNat)) = xs.take i.toNat ++ xs.drop j.toNat := by
    rw [hys, List.take_append_of_le_length (by simp; omega), List.take_of_length_le (by simp; omega)]
  rw [hcut] at f2 f3
  have hset : setE (setE obj [(o, .row e .int ys)]) [(nid, .row e .int (xs.take i.toNat ++ xs.drop j.toNat)), (o, .gone xs.length)] = setE obj [(nid, .row e .int (xs.take i.toNat ++ xs.drop j.toNat)), (o, .gone xs.length)] := by
    funext k
    simp only [setE, setO]
    split
    · rfl
    · split <;> rfl
  rw [hset] at f2 f3
  simp only [Value.slice.injEq] at f1
  obtain ⟨rfl, _, rfl⟩ := f1
  subst hn hys
  exact ⟨_, ρ', β', rfl, f3, f2⟩
end
def ρDel : Go.Shelf.Ren := ⟨fun n => if n = 45 then 129 else 0, fun n => if n = 0 then 0 else if n = 3 then 3 else if n = 4 then 4 else if n = 22 then 24 else 3, fun n => n⟩
set_option maxRecDepth 100000 in
theorem lays_Del : SlLaysE.n45 Tryz.prog ρDel := by
  have h3 := (by kernel_rfl : Tryz.prog.info? 3 = some (zeroOf Tryz.prog 3).1)
  have z3 := (by kernel_rfl : (zeroOf Tryz.prog 3).1.zero = some (.int .i64 0))
  have s3 := (by kernel_rfl : (zeroOf Tryz.prog 3).1.size = 1)
  have h4 := (by kernel_rfl : Tryz.prog.info? 4 = some (zeroOf Tryz.prog 4).1)
  have z4 := (by kernel_rfl : (zeroOf Tryz.prog 4).1.zero = some (.bool false))
  have s4 := (by kernel_rfl : (zeroOf Tryz.prog 4).1.size = 1)
  have h0 := (by kernel_rfl : Tryz.prog.info? 0 = some (zeroOf Tryz.prog 0).1)
  have z0 := (by kernel_rfl : (zeroOf Tryz.prog 0).1.zero = some (.tuple #[]))
  have s0 := (by kernel_rfl : (zeroOf Tryz.prog 0).1.size = 1)
  have h22 := (by kernel_rfl : Tryz.prog.info? 24 = some (zeroOf Tryz.prog 24).1)
  have z22 := (by kernel_rfl : (zeroOf Tryz.prog 24).1.zero = some (.slice none 0 0))
  have s22 := (by kernel_rfl : (zeroOf Tryz.prog 24).1.size = 1)
  exact {
    mixed := by kernel_rfl
    f45 := ⟨(Tryz.f129).name, by kernel_rfl, Tryz.func129.trans (by kernel_rfl)⟩
    t0 := Tryz.underlying0
    a0 := fun w => by simp [isAgg, ρDel, run_underlying Tryz.underlying0]
    z0 := fun w => by simp [Go.sizeOf, typeInfo, ρDel, h0, s0]
    v0 := fun w => by simp [zeroValue, typeInfo, ρDel, h0, z0]
    t3 := Tryz.underlying3
    a3 := fun w => by simp [isAgg, ρDel, run_underlying Tryz.underlying3]
    z3 := fun w => by simp [Go.sizeOf, typeInfo, ρDel, h3, s3]
    v3 := fun w => by simp [zeroValue, typeInfo, ρDel, h3, z3]
    t4 := Tryz.underlying4
    a4 := fun w => by simp [isAgg, ρDel, run_underlying Tryz.underlying4]
    z4 := fun w => by simp [Go.sizeOf, typeInfo, ρDel, h4, s4]
    v4 := fun w => by simp [zeroValue, typeInfo, ρDel, h4, z4]
    t22 := Tryz.underlying24
    a22 := fun w => by simp [isAgg, ρDel, run_underlying Tryz.underlying24]
    z22 := fun w => by simp [Go.sizeOf, typeInfo, ρDel, h22, s22]
    v22 := fun w => by simp [zeroValue, typeInfo, ρDel, h22, z22]
    a23 := fun w => by simp [isAgg, ρDel, run_underlying Tryz.underlying3]
    z23 := fun w => by simp [Go.sizeOf, typeInfo, ρDel, h3, s3] }
def c_w_Delete : Con := Con.del
def sel_w_Delete : Nat := 0
set_option maxRecDepth 100000 in
theorem ok_w_Delete : c_w_Delete.ok Tryz.prog 129 := by
  have h3 := (by kernel_rfl : Tryz.prog.info? 3 = some (zeroOf Tryz.prog 3).1)
  have z3 := (by kernel_rfl : (zeroOf Tryz.prog 3).1.zero = some (.int .i64 0))
  have s3 := (by kernel_rfl : (zeroOf Tryz.prog 3).1.size = 1)
  exact Con.del_ok (ρ := ρDel) lays_Del (fun w => by simp [zeroValue, typeInfo, ρDel, h3, z3]) _ h3 s3 (enter_of Tryz.func129 (by kernel_rfl) (by kernel_rfl))
end Go.Proofs.YtgnnmifpfgpllaaGreat
