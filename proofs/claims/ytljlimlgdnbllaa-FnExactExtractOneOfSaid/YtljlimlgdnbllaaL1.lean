import Derived.Test.YtljlimlgdnbllaaN1
import Derived.Test.YtljlimlgdnbllaaKit
import Derived.Deep.QuietTactic
import Derived.BigQuiet
import Derived.Deep.AppendLies
/- Walks of the laws' own functions: structs of ints. -/
set_option linter.all false
set_option linter.unusedVariables false
set_option linter.unusedSimpArgs false
namespace Go.Proofs.Ytljlimlgdnbllaa
open Go.RowKit
theorem toGroup_any (p q g : Int) (w : World) :
    Calls Try.prog 18 #[.agg #[.int .i64 p, .int .i64 q, .int .i64 g]] w fun en w' => en = .returned (.agg #[.int .i64 p, .int .i64 q, .int .i64 g]) ∧ Below w.heap.size w w' := by
  go_enter Try.func18, Try.ntmps18
  go_wp2
  exact bodyPost_ret (v := .agg #[.int .i64 p, .int .i64 q, .int .i64 g]) (by simp [results, Try.results18, go_sem]) rfl ⟨rfl, by repeat (first | exact Below.refl _ _ | refine bnew ?_ _)⟩
theorem toEqualLog_any (a b c d : Int) (w : World) :
    Calls Try.prog 41 #[.agg #[.int .i64 a, .int .i64 b, .int .i64 c, .int .i64 d]] w fun en w' => en = .returned (.agg #[.int .i64 a, .int .i64 b, .int .i64 c, .int .i64 d]) ∧ Below w.heap.size w w' := by
  go_enter Try.func41, Try.ntmps41
  go_wp2
  exact bodyPost_ret (v := .agg #[.int .i64 a, .int .i64 b, .int .i64 c, .int .i64 d]) (by simp [results, Try.results41, go_sem]) rfl ⟨rfl, by repeat (first | exact Below.refl _ _ | refine bnew ?_ _)⟩
end Go.Proofs.Ytljlimlgdnbllaa

/- Walks of the laws' own functions on int slices. -/
namespace Go.Proofs.Ytljlimlgdnbllaa
open Go.RowKit
set_option maxHeartbeats 400000 in
theorem toIntS_any (A : Option Addr) (c : Nat) (xs : List Int) (hl : xs.length ≤ 35184372088832) (w : World) (hx : RI w w.heap.size A xs) :
    Calls Try.prog 20 #[.slice A xs.length c] w (RetI w xs) := by
  obtain ⟨i0, hi, hz0, hz1, hz2⟩ := info_parts info_int
  have hmk : ∀ W : World, (Instr.makeSlice 24 (.int .i64 (xs.length : Int)) (.int .i64 (xs.length : Int))).run Try.prog W = .ok (.slice (some ⟨W.heap.size, 0, none⟩) xs.length xs.length) (W.alloc (.cells (madeCells #[.int .i64 0] xs.length) 3)) := by
    intro W
    have hr := run_make (P := Try.prog) W 24 3 i0 (.int .i64 0) Try.underlying24 hi hz0 .i64 .i64 (xs.length : Int) (xs.length : Int) (by omega) (by omega) (by rw [hz2]; omega) (by omega)
    rw [hr, hz1]; simp [Value.cells]
  have hst : (w.alloc (.cells (madeCells #[.int .i64 0] xs.length) 3)).ownsRow w.heap.size 3 1 (.slice (some ⟨w.heap.size, 0, none⟩) xs.length xs.length) xs.length (List.replicate xs.length (.int .i64 0)) :=
    ⟨by simp, .inr ⟨w.heap.size, xs.length, _, rfl, Nat.le_refl _, heap_alloc_new w _, Nat.le_refl _, by unfold maxLen; omega, by simp [size_madeCells], by rw [toList_madeCells_one]; simp⟩⟩
  have HST := Lib.hid hst
  clear hst
  go_enter Try.func20, Try.ntmps20
  go_wp2
  go_loopw [4] (fun I W => ∃ k : Nat, k ≤ xs.length ∧ I = .int .i64 k ∧ W.ownsRow w.heap.size 3 1 (.slice (some ⟨w.heap.size, 0, none⟩) xs.length xs.length) xs.length ((xs.take k).map (Value.int .i64) ++ List.replicate (xs.length - k) (.int .i64 0)) ∧ Below w.heap.size w W) (fun I _ => xs.length - (intOf I).toNat)
  case atStart => exact ⟨0, by omega, rfl, by simpa using HST.out, below_new w _⟩
  case round =>
    obtain ⟨k, hk, rfl, ho, hB⟩ := hrel
    by_cases hlt : k < xs.length
    · obtain ⟨ad, rfl, had, hc⟩ := (hx.next hB).at_ hlt
      have HX := Lib.hid hx; clear hx
      have hcell := ho.cellAt k (by omega)
      have hlen : k < ((xs.take k).map (Value.int .i64) ++ List.replicate (xs.length - k) (Value.int .i64 0)).length := by simp; omega
      rw [List.getElem?_eq_getElem hlen] at hcell
      have hfr := ho.frozenAt k
      have hs := Lib.hid (ho.stored k (.int .i64 xs[k]))
      have HO := Lib.hid ho; clear ho
      generalize ((xs.take k).map (Value.int .i64) ++ List.replicate (xs.length - k) (Value.int .i64 0))[k] = old at hcell
      clear hlen
      go_wp2
      go_roundw
      case rel => exact ⟨k + 1, by omega, by go_num, by rw [← take_set_rep xs k hlt]; exact hs.out.1, hB.setCell (Nat.le_refl _) _⟩
      case measure => simp [intOf]; omega
    · have HX := Lib.hid hx; clear hx
      have HO := Lib.hid ho; clear ho
      go_wp2
      go_ret
      have ho := HO.out
      rw [show k = xs.length by omega, List.take_length, Nat.sub_self, List.replicate_zero, List.append_nil] at ho
      exact ⟨_, _, rfl, ho, hB⟩
theorem szIntS_any (A : Option Addr) (n c : Nat) (l : Int) (hl : l ≤ 1048576) (h0 : -1 ≤ l) (hn : n ≤ 9223372036854775807) (w : World) :
    Calls Try.prog 61 #[.slice A n c, .int .i64 l] w fun en w' => en = .returned (.int .i64 (if l - n < 0 then -1 else l - n)) ∧ w = w' := by
  by_cases h : l - n < 0
  · go_enter Try.func61, Try.ntmps61
    go_wp2
    go_ret
    exact ⟨rfl, rfl⟩
  · go_enter Try.func61, Try.ntmps61
    go_wp2
    go_ret
    exact ⟨rfl, rfl⟩
set_option maxHeartbeats 400000 in
theorem eqIntS_same (A B : Option Addr) (c d : Nat) (xs : List Int) (hl : xs.length ≤ 9223372036854775807) (w : World) (hx : RI w w.heap.size A xs) (hy : RI w w.heap.size B xs) :
    Calls Try.prog 24 #[.slice A xs.length c, .slice B xs.length d] w fun en w' => en = .returned (.bool true) ∧ Below w.heap.size w w' := by
  have hne : ((xs.length : Int) != (xs.length : Int)) = false := by simp
  go_enter Try.func24, Try.ntmps24
  go_wp2
  go_loopw [5] (fun I W => ∃ k : Nat, k ≤ xs.length ∧ I = .int .i64 k ∧ Below w.heap.size w W) (fun I _ => xs.length - (intOf I).toNat)
  case atStart => exact ⟨0, by omega, rfl, Below.refl _ _⟩
  case round =>
    obtain ⟨k, hk, rfl, hB⟩ := hrel
    by_cases hlt : k < xs.length
    · obtain ⟨ad, rfl, had, hc⟩ := (hx.next hB).at_ hlt
      obtain ⟨ad2, rfl, had2, hc2⟩ := (hy.next hB).at_ hlt
      have HX := Lib.hid hx; clear hx
      have HY := Lib.hid hy; clear hy
      have h1 : (0 : Int) ≤ (k : Int) := by omega
      have h2 : (k : Int) < (xs.length : Int) := by omega
      have h3 : (xs[k] != xs[k]) = false := by simp
      go_wp2_with fail
      go_quiet (fail)
      go_wp2
      go_roundw
      case rel => exact ⟨k + 1, by omega, by go_num, by first | exact bdrewN hB _ | exact hB.drew⟩
      case measure => simp [intOf]; omega
    · have HX := Lib.hid hx; clear hx
      have HY := Lib.hid hy; clear hy
      go_wp2
      go_ret
      exact ⟨rfl, hB⟩
/-- the list that markIntS writes: k, k + 1, .. -/
def marks (k : Int) : Nat → List Int
  | 0 => []
  | n + 1 => k :: marks (k + 1) n
theorem marks_len : ∀ (n : Nat) (k : Int), (marks k n).length = n
  | 0, _ => rfl
  | n + 1, k => by simp [marks, marks_len n]
theorem marks_get : ∀ (n : Nat) (k : Int) (j : Nat) (hj : j < (marks k n).length), (marks k n)[j] = k + j
  | n + 1, k, 0, _ => by simp [marks]
  | n + 1, k, j + 1, hj => by
    simp only [marks, List.getElem_cons_succ]
    rw [marks_get n (k + 1) j]; omega
theorem mark_step (xs : List Int) (k0 : Int) (k : Nat) (hk : k < xs.length) : ((marks k0 k).map (Value.int .i64) ++ (xs.drop k).map (Value.int .i64)).set k (Value.int .i64 (k0 + k)) = (marks k0 (k + 1)).map (Value.int .i64) ++ (xs.drop (k + 1)).map (Value.int .i64) := by
  have h1 : marks k0 (k + 1) = marks k0 k ++ [k0 + k] := by
    apply List.ext_getElem
    · simp [marks_len]
    · intro j h2 h3
      rw [marks_get]
      rcases Nat.lt_or_ge j k with h | h
      · rw [List.getElem_append_left (by simpa [marks_len] using h), marks_get]
      · have : j = k := by simp [marks_len] at h2; omega
        subst this
        rw [List.getElem_append_right (by simp [marks_len])]; simp [marks_len]
  have hl : ((marks k0 k).map (Value.int .i64)).length = k := by simp [marks_len]
  rw [List.set_append_right _ _ (by omega), hl, Nat.sub_self, List.drop_eq_getElem_cons hk, List.map_cons, List.set_cons_zero, h1, List.map_append]
  simp
set_option maxHeartbeats 400000 in
theorem markIntS_any (lo : Nat) (A : Option Addr) (c : Nat) (xs : List Int) (k0 : Int) (hl : xs.length ≤ 35184372088832) (h0 : -1 ≤ k0) (h1 : k0 ≤ 4611686018427387904) (w : World) (hx : OI w lo (.slice A xs.length c) xs) :
    Calls Try.prog 31 #[.slice A xs.length c, .int .i64 k0] w fun en w' => en = .returned (.int .i64 (k0 + xs.length)) ∧ OI w' lo (.slice A xs.length c) (marks k0 xs.length) ∧ w.grownBy w' (Value.slice A xs.length c).ownBlock := by
  have HX0 : OI w lo (.slice A xs.length c) ((marks k0 0) ++ xs.drop 0) := by simpa [marks] using hx
  have hln : ∀ k ≤ xs.length, (marks k0 k ++ xs.drop k).length = xs.length := fun k hk => by simp [marks_len]; omega
  have HLN := Lib.hid hln
  have HX := Lib.hid HX0
  clear hln HX0 hx
  go_enter Try.func31, Try.ntmps31
  go_wp2
  go_loopw [1, 5] (fun K I W => ∃ k : Nat, k ≤ xs.length ∧ I = .int .i64 k ∧ K = .int .i64 (k0 + k) ∧ W.ownsRow lo 3 1 (.slice A xs.length c) xs.length ((marks k0 k ++ xs.drop k).map (Value.int .i64)) ∧ w.grownBy W (Value.slice A xs.length c).ownBlock) (fun _ I _ => xs.length - (intOf I).toNat)
  case atStart => exact ⟨0, by omega, rfl, by simp, by have h := HX.out; unfold OI at h; rw [HLN.out 0 (by omega)] at h; exact h, World.grownBy.refl _ _⟩
  case round =>
    obtain ⟨k, hk, rfl, rfl, ho, hg⟩ := hrel
    by_cases hlt : k < xs.length
    · obtain ⟨g, cap, hv, _⟩ := World.ownsRow.form ho (by omega)
      injection hv with hA _ hc
      subst hA
      have hcell := ho.cellAt k (by omega)
      have hlen : k < ((marks k0 k ++ xs.drop k).map (Value.int .i64)).length := by rw [List.length_map, HLN.out k hk]; exact hlt
      rw [List.getElem?_eq_getElem hlen] at hcell
      have hfr := ho.frozenAt k
      have hs := Lib.hid (ho.stored k (.int .i64 (k0 + k)))
      have HO := Lib.hid ho; clear ho
      have HG := Lib.hid hg; clear hg
      generalize ((marks k0 k ++ xs.drop k).map (Value.int .i64))[k] = old at hcell
      clear hlen hc
      go_wp2
      go_roundw
      case rel => exact ⟨k + 1, by omega, by go_num, by rw [show ((k + 1 : Nat) : Int) = (k : Int) + 1 by omega, Int.add_assoc], by
        have h2 := hs.out.1
        rw [List.map_append, mark_step xs k0 k hlt, ← List.map_append] at h2
        exact h2, HG.out.trans hs.out.2⟩
      case measure => simp [intOf]; omega
    · have HO := Lib.hid ho; clear ho
      have HG := Lib.hid hg; clear hg
      go_wp2
      go_ret
      obtain rfl : k = xs.length := by omega
      refine ⟨rfl, ?_, HG.out⟩
      have h := HO.out
      rw [List.drop_length, List.append_nil] at h
      unfold OI
      rw [marks_len]
      exact h
set_option maxHeartbeats 400000 in
theorem heldIntS_any (A : Option Addr) (c n : Nat) (k0 : Int) (hl : n ≤ 35184372088832) (h0 : -1 ≤ k0) (h1 : k0 ≤ 4611686018427387904) (w : World) (hx : RI w w.heap.size A (marks k0 n)) :
    Calls Try.prog 86 #[.slice A n c, .int .i64 k0] w fun en w' => en = .returned (.int .i64 (k0 + n)) ∧ w = w' := by
  have HX := Lib.hid hx
  clear hx
  go_enter Try.func86, Try.ntmps86
  go_wp2
  go_loop [1, 5] (fun K I => ∃ k : Nat, k ≤ n ∧ I = .int .i64 k ∧ K = .int .i64 (k0 + k)) (fun _ I => n - (intOf I).toNat)
  case atStart => exact ⟨0, by omega, rfl, by simp⟩
  case round =>
    obtain ⟨k, hk, rfl, rfl⟩ := hrel
    by_cases hlt : k < n
    · obtain ⟨ad, rfl, had, hc⟩ := HX.out.at_ (show k < (marks k0 n).length by rw [marks_len]; exact hlt)
      rw [marks_get] at hc
      have h3 : ((k0 + (k : Int)) != (k0 + (k : Int))) = false := by simp
      go_wp2
      go_round
      case rel => exact ⟨k + 1, by omega, by go_num, by rw [show ((k + 1 : Nat) : Int) = (k : Int) + 1 by omega, Int.add_assoc]⟩
      case measure => simp [intOf]; omega
    · go_wp2
      go_ret
      exact ⟨ret_int (by rw [show k = n by omega]), rfl⟩
end Go.Proofs.Ytljlimlgdnbllaa

/- Walks of the laws' own functions: bases. -/
namespace Go.Proofs.Ytljlimlgdnbllaa
open Go.RowKit
/-- what toBases says -/
def RetB (w : World) (bh : Int) (bs : List Int) (e : Ending) (w' : World) : Prop := ∃ A c, e = .returned (.agg #[.int .i64 bh, .slice A bs.length c]) ∧ OI w' w.heap.size (.slice A bs.length c) bs ∧ Below w.heap.size w w'
set_option maxHeartbeats 400000 in
theorem toBases_any (bh : Int) (A : Option Addr) (c : Nat) (bs : List Int) (hl : bs.length ≤ 35184372088832) (w : World) (hx : RI w w.heap.size A bs) :
    Calls Try.prog 19 #[.agg #[.int .i64 bh, .slice A bs.length c]] w (RetB w bh bs) := by
  have hT0 : Below w.heap.size w (((w.alloc (.cells #[.int .i64 bh, .slice A bs.length c] 26)).alloc (.cells #[.int .i64 0, .slice none 0 0] 35)).alloc (.cells #[.int .i64 bh, .slice none 0 0] 35)) := by repeat (first | exact Below.refl _ _ | refine bnew ?_ _)
  go_enter Try.func19, Try.ntmps19
  go_wp2_with fail
  refine (toIntS_any A c bs hl _ (hx.next (by repeat (first | exact hT0 | refine bnew ?_ _ | refine Below.drew ?_ | refine Below.drewN ?_ _)))).mono ?_
  rintro e1 w1 ⟨A1, c1, rfl, ho1, hb1⟩
  have hT1 : Below w.heap.size w w1 := bnext (by repeat (first | exact hT0 | refine bnew ?_ _ | refine Below.drew ?_ | refine Below.drewN ?_ _)) hb1
  have c1_0 : w1.cell? ⟨w.heap.size, 0, none⟩ = some (.int .i64 bh) := by
    refine cell_keep hb1 ?_
    repeat (first | with_reducible assumption | (refine cell_new' ?_ _ _ _ rfl; focus (simp; done)) | with_reducible refine cell_keep (below_new _ _) ?_)
  have c1_1 : w1.cell? ⟨w.heap.size, 1, none⟩ = some (.slice A bs.length c) := by
    refine cell_keep hb1 ?_
    repeat (first | with_reducible assumption | (refine cell_new' ?_ _ _ _ rfl; focus (simp; done)) | with_reducible refine cell_keep (below_new _ _) ?_)
  have c1_2 : w1.cell? ⟨w.heap.size + 1, 0, none⟩ = some (.int .i64 0) := by
    refine cell_keep hb1 ?_
    repeat (first | with_reducible assumption | (refine cell_new' ?_ _ _ _ rfl; focus (simp; done)) | with_reducible refine cell_keep (below_new _ _) ?_)
  have f1_2 : w1.frozen? ⟨w.heap.size + 1, 0, none⟩ = false := by
    refine frozen_keep (v := .int .i64 0) hb1 ?_ ?_
    · repeat (first | with_reducible assumption | (refine cell_new' ?_ _ _ _ rfl; focus (simp; done)) | with_reducible refine cell_keep (below_new _ _) ?_)
    · repeat (first | with_reducible assumption | (refine frozen_new' ?_ _ _ _; focus (simp; done)) | (refine frozen_alloc ?_ ?_; focus (simp; done)) | (refine frozen_keep (below_new _ _) (by with_reducible assumption) ?_))
  have c1_3 : w1.cell? ⟨w.heap.size + 1, 1, none⟩ = some (.slice none 0 0) := by
    refine cell_keep hb1 ?_
    repeat (first | with_reducible assumption | (refine cell_new' ?_ _ _ _ rfl; focus (simp; done)) | with_reducible refine cell_keep (below_new _ _) ?_)
  have f1_3 : w1.frozen? ⟨w.heap.size + 1, 1, none⟩ = false := by
    refine frozen_keep (v := .slice none 0 0) hb1 ?_ ?_
    · repeat (first | with_reducible assumption | (refine cell_new' ?_ _ _ _ rfl; focus (simp; done)) | with_reducible refine cell_keep (below_new _ _) ?_)
    · repeat (first | with_reducible assumption | (refine frozen_new' ?_ _ _ _; focus (simp; done)) | (refine frozen_alloc ?_ ?_; focus (simp; done)) | (refine frozen_keep (below_new _ _) (by with_reducible assumption) ?_))
  have c1_4 : w1.cell? ⟨w.heap.size + 1 + 1, 0, none⟩ = some (.int .i64 bh) := by
    refine cell_keep hb1 ?_
    repeat (first | with_reducible assumption | (refine cell_new' ?_ _ _ _ rfl; focus (simp; done)) | with_reducible refine cell_keep (below_new _ _) ?_)
  have f1_4 : w1.frozen? ⟨w.heap.size + 1 + 1, 0, none⟩ = false := by
    refine frozen_keep (v := .int .i64 bh) hb1 ?_ ?_
    · repeat (first | with_reducible assumption | (refine cell_new' ?_ _ _ _ rfl; focus (simp; done)) | with_reducible refine cell_keep (below_new _ _) ?_)
    · repeat (first | with_reducible assumption | (refine frozen_new' ?_ _ _ _; focus (simp; done)) | (refine frozen_alloc ?_ ?_; focus (simp; done)) | (refine frozen_keep (below_new _ _) (by with_reducible assumption) ?_))
  have c1_5 : w1.cell? ⟨w.heap.size + 1 + 1, 1, none⟩ = some (.slice none 0 0) := by
    refine cell_keep hb1 ?_
    repeat (first | with_reducible assumption | (refine cell_new' ?_ _ _ _ rfl; focus (simp; done)) | with_reducible refine cell_keep (below_new _ _) ?_)
  have f1_5 : w1.frozen? ⟨w.heap.size + 1 + 1, 1, none⟩ = false := by
    refine frozen_keep (v := .slice none 0 0) hb1 ?_ ?_
    · repeat (first | with_reducible assumption | (refine cell_new' ?_ _ _ _ rfl; focus (simp; done)) | with_reducible refine cell_keep (below_new _ _) ?_)
    · repeat (first | with_reducible assumption | (refine frozen_new' ?_ _ _ _; focus (simp; done)) | (refine frozen_alloc ?_ ?_; focus (simp; done)) | (refine frozen_keep (below_new _ _) (by with_reducible assumption) ?_))
  go_wp2
  have r1 := set1b (.slice A1 bs.length c1) c1_5
  have r0 : (w1.setCell ⟨w.heap.size + 1 + 1, 1, none⟩ (.slice A1 bs.length c1)).cell? ⟨w.heap.size + 1 + 1, 0, none⟩ = some (.int .i64 bh) := (sc_other _ (by simp)).trans c1_4
  have y0 : (w1.setCell ⟨w.heap.size + 1 + 1, 1, none⟩ (.slice A1 bs.length c1)).cell? ⟨w.heap.size + 1, 0, none⟩ = some (.int .i64 0) := (sc_other _ (by simp)).trans c1_2
  have y1 : (w1.setCell ⟨w.heap.size + 1 + 1, 1, none⟩ (.slice A1 bs.length c1)).cell? ⟨w.heap.size + 1, 1, none⟩ = some (.slice none 0 0) := (sc_other _ (by simp)).trans c1_3
  have z0 := set1b (W := (w1.setCell ⟨w.heap.size + 1 + 1, 1, none⟩ (.slice A1 bs.length c1))) (b := w.heap.size + 1) (i := 0) (.int .i64 bh) y0
  have z1 := set1b (W := ((w1.setCell ⟨w.heap.size + 1 + 1, 1, none⟩ (.slice A1 bs.length c1)).setCell ⟨w.heap.size + 1, 0, none⟩ (.int .i64 bh))) (b := w.heap.size + 1) (i := 1) (.slice A1 bs.length c1) ((sc_other _ (by simp)).trans y1)
  refine bodyPost_ret (v := .agg #[.int .i64 bh, .slice A1 bs.length c1]) (by simp [results, Try.results19, go_sem, r0, r1, z0, z1]) rfl ⟨A1, c1, rfl, ?_, ?_⟩
  · exact (((ho1.set_ _ _ (by simp)).set_ _ _ (by simp)).set_ _ _ (by simp)).lo (by simp <;> omega)
  · repeat (first | exact hT1 | refine below_set _ ?_ (by simp <;> omega))
theorem szBases_any (bh : Int) (A : Option Addr) (n c : Nat) (l : Int) (hl : l ≤ 1048576) (h0 : -1 ≤ l) (hn : n ≤ 9223372036854775807) (w : World) :
    Calls Try.prog 15 #[.agg #[.int .i64 bh, .slice A n c], .int .i64 l] w fun en w' => en = .returned (.int .i64 (if l - n < 0 then -1 else l - n)) ∧ Below w.heap.size w w' := by
  go_enter Try.func15, Try.ntmps15
  go_wp2_with fail
  refine (szIntS_any A n c l hl h0 hn _).mono ?_
  rintro e1 w1 ⟨rfl, rfl⟩
  by_cases h : l - n < 0
  · rw [if_pos h]
    go_wp2
    go_ret
    exact ⟨rfl, below_new w _⟩
  · rw [if_neg h]
    go_wp2
    go_ret
    exact ⟨rfl, below_new w _⟩
set_option maxHeartbeats 400000 in
theorem eqBases_same (bh : Int) (A B : Option Addr) (c d : Nat) (bs : List Int) (hl : bs.length ≤ 9223372036854775807) (w : World) (hx : RI w w.heap.size A bs) (hy : RI w w.heap.size B bs) :
    Calls Try.prog 23 #[.agg #[.int .i64 bh, .slice A bs.length c], .agg #[.int .i64 bh, .slice B bs.length d]] w fun en w' => en = .returned (.bool true) ∧ Below w.heap.size w w' := by
  have hne : (bh != bh) = false := by simp
  have hT0 : Below w.heap.size w ((w.alloc (.cells #[.int .i64 bh, .slice A bs.length c] 35)).alloc (.cells #[.int .i64 bh, .slice B bs.length d] 35)) := by repeat (first | exact Below.refl _ _ | refine bnew ?_ _)
  go_enter Try.func23, Try.ntmps23
  go_wp2_with fail
  refine (eqIntS_same A B c d bs hl _ (hx.next (by repeat (first | exact hT0 | refine bnew ?_ _ | refine Below.drew ?_ | refine Below.drewN ?_ _))) (hy.next (by repeat (first | exact hT0 | refine bnew ?_ _ | refine Below.drew ?_ | refine Below.drewN ?_ _)))).mono ?_
  rintro e1 w1 ⟨rfl, hb1⟩
  have hT1 : Below w.heap.size w w1 := bnext (by repeat (first | exact hT0 | refine bnew ?_ _ | refine Below.drew ?_ | refine Below.drewN ?_ _)) hb1
  have c1_0 : w1.cell? ⟨w.heap.size, 0, none⟩ = some (.int .i64 bh) := by
    refine cell_keep hb1 ?_
    repeat (first | with_reducible assumption | (refine cell_new' ?_ _ _ _ rfl; focus (simp; done)) | with_reducible refine cell_keep (below_new _ _) ?_)
  have c1_1 : w1.cell? ⟨w.heap.size, 1, none⟩ = some (.slice A bs.length c) := by
    refine cell_keep hb1 ?_
    repeat (first | with_reducible assumption | (refine cell_new' ?_ _ _ _ rfl; focus (simp; done)) | with_reducible refine cell_keep (below_new _ _) ?_)
  have c1_2 : w1.cell? ⟨w.heap.size + 1, 0, none⟩ = some (.int .i64 bh) := by
    refine cell_keep hb1 ?_
    repeat (first | with_reducible assumption | (refine cell_new' ?_ _ _ _ rfl; focus (simp; done)) | with_reducible refine cell_keep (below_new _ _) ?_)
  have c1_3 : w1.cell? ⟨w.heap.size + 1, 1, none⟩ = some (.slice B bs.length d) := by
    refine cell_keep hb1 ?_
    repeat (first | with_reducible assumption | (refine cell_new' ?_ _ _ _ rfl; focus (simp; done)) | with_reducible refine cell_keep (below_new _ _) ?_)
  go_wp2
  go_ret
  exact ⟨rfl, hT1⟩
end Go.Proofs.Ytljlimlgdnbllaa

/- Walks of the laws' own functions: structs with slices. -/
namespace Go.Proofs.Ytljlimlgdnbllaa
open Go.RowKit
/-- what toDealing says: the struct, its slices of their own -/
def RetDealing (w : World) (cs : List Int) (ss : List Int) (e : Ending) (w' : World) : Prop := ∃ A_cs c_cs A_ss c_ss, e = .returned (.agg #[.slice A_cs cs.length c_cs, .slice A_ss ss.length c_ss]) ∧ OIs w' w.heap.size [(.slice A_cs cs.length c_cs, cs), (.slice A_ss ss.length c_ss, ss)] ∧ Below w.heap.size w w'
/-- what toProof says: the struct, its slices of their own -/
def RetProof (w : World) (pa : List Int) (pc : List Int) (pr : List Int) (e : Ending) (w' : World) : Prop := ∃ A_pa c_pa A_pc c_pc A_pr c_pr, e = .returned (.agg #[.slice A_pa pa.length c_pa, .slice A_pc pc.length c_pc, .slice A_pr pr.length c_pr]) ∧ OIs w' w.heap.size [(.slice A_pa pa.length c_pa, pa), (.slice A_pc pc.length c_pc, pc), (.slice A_pr pr.length c_pr, pr)] ∧ Below w.heap.size w w'
set_option maxHeartbeats 3200000 in
theorem toProof_any (A_pa : Option Addr) (c_pa : Nat) (pa : List Int) (hl_pa : pa.length ≤ 35184372088832) (A_pc : Option Addr) (c_pc : Nat) (pc : List Int) (hl_pc : pc.length ≤ 35184372088832) (A_pr : Option Addr) (c_pr : Nat) (pr : List Int) (hl_pr : pr.length ≤ 35184372088832) (w : World) (hx_pa : RI w w.heap.size A_pa pa) (hx_pc : RI w w.heap.size A_pc pc) (hx_pr : RI w w.heap.size A_pr pr) :
    Calls Try.prog 21 #[.agg #[.slice A_pa pa.length c_pa, .slice A_pc pc.length c_pc, .slice A_pr pr.length c_pr]] w (RetProof w pa pc pr) := by
  have hT0 : Below w.heap.size w (((w.alloc (.cells #[.slice A_pa pa.length c_pa, .slice A_pc pc.length c_pc, .slice A_pr pr.length c_pr] 28)).alloc (.cells #[.slice none 0 0, .slice none 0 0, .slice none 0 0] 38)).alloc (.cells #[.slice none 0 0, .slice none 0 0, .slice none 0 0] 38)) := by repeat (first | exact Below.refl _ _ | refine bnew ?_ _)
  go_enter Try.func21, Try.ntmps21
  go_wp2_with fail
  refine (toIntS_any A_pa c_pa pa hl_pa _ (hx_pa.next (by repeat (first | exact hT0 | refine bnew ?_ _ | refine Below.drew ?_ | refine Below.drewN ?_ _ | (refine below_set _ ?_ ?_; rotate_left; focus (first | omega | (simp; done) | (simp <;> omega))))))).mono ?_
  rintro e1 w1 ⟨B_pa, d_pa, rfl, ho_pa, hb1⟩
  have hT1 : Below w.heap.size w w1 := bnext (by repeat (first | exact hT0 | refine bnew ?_ _ | refine Below.drew ?_ | refine Below.drewN ?_ _ | (refine below_set _ ?_ ?_; rotate_left; focus (first | omega | (simp; done) | (simp <;> omega))))) hb1
  have c1_0 : w1.cell? ⟨w.heap.size, 0, none⟩ = some (.slice A_pa pa.length c_pa) := by
    refine cell_keep hb1 ?_
    repeat (first | with_reducible assumption | (with_reducible apply set1b; with_reducible assumption) | (with_reducible refine (sc_other _ ?_).trans ?_; focus (simp; done)) | (refine cell_new' ?_ _ _ _ rfl; focus (simp; done)) | with_reducible refine cell_keep (below_new _ _) ?_)
  have c1_1 : w1.cell? ⟨w.heap.size, 1, none⟩ = some (.slice A_pc pc.length c_pc) := by
    refine cell_keep hb1 ?_
    repeat (first | with_reducible assumption | (with_reducible apply set1b; with_reducible assumption) | (with_reducible refine (sc_other _ ?_).trans ?_; focus (simp; done)) | (refine cell_new' ?_ _ _ _ rfl; focus (simp; done)) | with_reducible refine cell_keep (below_new _ _) ?_)
  have c1_2 : w1.cell? ⟨w.heap.size, 2, none⟩ = some (.slice A_pr pr.length c_pr) := by
    refine cell_keep hb1 ?_
    repeat (first | with_reducible assumption | (with_reducible apply set1b; with_reducible assumption) | (with_reducible refine (sc_other _ ?_).trans ?_; focus (simp; done)) | (refine cell_new' ?_ _ _ _ rfl; focus (simp; done)) | with_reducible refine cell_keep (below_new _ _) ?_)
  have c1_3 : w1.cell? ⟨w.heap.size + 1, 0, none⟩ = some (.slice none 0 0) := by
    refine cell_keep hb1 ?_
    repeat (first | with_reducible assumption | (with_reducible apply set1b; with_reducible assumption) | (with_reducible refine (sc_other _ ?_).trans ?_; focus (simp; done)) | (refine cell_new' ?_ _ _ _ rfl; focus (simp; done)) | with_reducible refine cell_keep (below_new _ _) ?_)
  have f1_3 : w1.frozen? ⟨w.heap.size + 1, 0, none⟩ = false := by
    refine frozen_keep (v := .slice none 0 0) hb1 ?_ ?_
    · repeat (first | with_reducible assumption | (with_reducible apply set1b; with_reducible assumption) | (with_reducible refine (sc_other _ ?_).trans ?_; focus (simp; done)) | (refine cell_new' ?_ _ _ _ rfl; focus (simp; done)) | with_reducible refine cell_keep (below_new _ _) ?_)
    · repeat (first | with_reducible assumption | with_reducible refine frozen_set _ ?_ | (refine frozen_new' ?_ _ _ _; focus (simp; done)) | (refine frozen_alloc ?_ ?_; focus (simp; done)) | (refine frozen_keep (below_new _ _) (by with_reducible assumption) ?_))
  have c1_4 : w1.cell? ⟨w.heap.size + 1, 1, none⟩ = some (.slice none 0 0) := by
    refine cell_keep hb1 ?_
    repeat (first | with_reducible assumption | (with_reducible apply set1b; with_reducible assumption) | (with_reducible refine (sc_other _ ?_).trans ?_; focus (simp; done)) | (refine cell_new' ?_ _ _ _ rfl; focus (simp; done)) | with_reducible refine cell_keep (below_new _ _) ?_)
  have f1_4 : w1.frozen? ⟨w.heap.size + 1, 1, none⟩ = false := by
    refine frozen_keep (v := .slice none 0 0) hb1 ?_ ?_
    · repeat (first | with_reducible assumption | (with_reducible apply set1b; with_reducible assumption) | (with_reducible refine (sc_other _ ?_).trans ?_; focus (simp; done)) | (refine cell_new' ?_ _ _ _ rfl; focus (simp; done)) | with_reducible refine cell_keep (below_new _ _) ?_)
    · repeat (first | with_reducible assumption | with_reducible refine frozen_set _ ?_ | (refine frozen_new' ?_ _ _ _; focus (simp; done)) | (refine frozen_alloc ?_ ?_; focus (simp; done)) | (refine frozen_keep (below_new _ _) (by with_reducible assumption) ?_))
  have c1_5 : w1.cell? ⟨w.heap.size + 1, 2, none⟩ = some (.slice none 0 0) := by
    refine cell_keep hb1 ?_
    repeat (first | with_reducible assumption | (with_reducible apply set1b; with_reducible assumption) | (with_reducible refine (sc_other _ ?_).trans ?_; focus (simp; done)) | (refine cell_new' ?_ _ _ _ rfl; focus (simp; done)) | with_reducible refine cell_keep (below_new _ _) ?_)
  have f1_5 : w1.frozen? ⟨w.heap.size + 1, 2, none⟩ = false := by
    refine frozen_keep (v := .slice none 0 0) hb1 ?_ ?_
    · repeat (first | with_reducible assumption | (with_reducible apply set1b; with_reducible assumption) | (with_reducible refine (sc_other _ ?_).trans ?_; focus (simp; done)) | (refine cell_new' ?_ _ _ _ rfl; focus (simp; done)) | with_reducible refine cell_keep (below_new _ _) ?_)
    · repeat (first | with_reducible assumption | with_reducible refine frozen_set _ ?_ | (refine frozen_new' ?_ _ _ _; focus (simp; done)) | (refine frozen_alloc ?_ ?_; focus (simp; done)) | (refine frozen_keep (below_new _ _) (by with_reducible assumption) ?_))
  have c1_6 : w1.cell? ⟨w.heap.size + 1 + 1, 0, none⟩ = some (.slice none 0 0) := by
    refine cell_keep hb1 ?_
    repeat (first | with_reducible assumption | (with_reducible apply set1b; with_reducible assumption) | (with_reducible refine (sc_other _ ?_).trans ?_; focus (simp; done)) | (refine cell_new' ?_ _ _ _ rfl; focus (simp; done)) | with_reducible refine cell_keep (below_new _ _) ?_)
  have f1_6 : w1.frozen? ⟨w.heap.size + 1 + 1, 0, none⟩ = false := by
    refine frozen_keep (v := .slice none 0 0) hb1 ?_ ?_
    · repeat (first | with_reducible assumption | (with_reducible apply set1b; with_reducible assumption) | (with_reducible refine (sc_other _ ?_).trans ?_; focus (simp; done)) | (refine cell_new' ?_ _ _ _ rfl; focus (simp; done)) | with_reducible refine cell_keep (below_new _ _) ?_)
    · repeat (first | with_reducible assumption | with_reducible refine frozen_set _ ?_ | (refine frozen_new' ?_ _ _ _; focus (simp; done)) | (refine frozen_alloc ?_ ?_; focus (simp; done)) | (refine frozen_keep (below_new _ _) (by with_reducible assumption) ?_))
  have c1_7 : w1.cell? ⟨w.heap.size + 1 + 1, 1, none⟩ = some (.slice none 0 0) := by
    refine cell_keep hb1 ?_
    repeat (first | with_reducible assumption | (with_reducible apply set1b; with_reducible assumption) | (with_reducible refine (sc_other _ ?_).trans ?_; focus (simp; done)) | (refine cell_new' ?_ _ _ _ rfl; focus (simp; done)) | with_reducible refine cell_keep (below_new _ _) ?_)
  have f1_7 : w1.frozen? ⟨w.heap.size + 1 + 1, 1, none⟩ = false := by
    refine frozen_keep (v := .slice none 0 0) hb1 ?_ ?_
    · repeat (first | with_reducible assumption | (with_reducible apply set1b; with_reducible assumption) | (with_reducible refine (sc_other _ ?_).trans ?_; focus (simp; done)) | (refine cell_new' ?_ _ _ _ rfl; focus (simp; done)) | with_reducible refine cell_keep (below_new _ _) ?_)
    · repeat (first | with_reducible assumption | with_reducible refine frozen_set _ ?_ | (refine frozen_new' ?_ _ _ _; focus (simp; done)) | (refine frozen_alloc ?_ ?_; focus (simp; done)) | (refine frozen_keep (below_new _ _) (by with_reducible assumption) ?_))
  have c1_8 : w1.cell? ⟨w.heap.size + 1 + 1, 2, none⟩ = some (.slice none 0 0) := by
    refine cell_keep hb1 ?_
    repeat (first | with_reducible assumption | (with_reducible apply set1b; with_reducible assumption) | (with_reducible refine (sc_other _ ?_).trans ?_; focus (simp; done)) | (refine cell_new' ?_ _ _ _ rfl; focus (simp; done)) | with_reducible refine cell_keep (below_new _ _) ?_)
  have f1_8 : w1.frozen? ⟨w.heap.size + 1 + 1, 2, none⟩ = false := by
    refine frozen_keep (v := .slice none 0 0) hb1 ?_ ?_
    · repeat (first | with_reducible assumption | (with_reducible apply set1b; with_reducible assumption) | (with_reducible refine (sc_other _ ?_).trans ?_; focus (simp; done)) | (refine cell_new' ?_ _ _ _ rfl; focus (simp; done)) | with_reducible refine cell_keep (below_new _ _) ?_)
    · repeat (first | with_reducible assumption | with_reducible refine frozen_set _ ?_ | (refine frozen_new' ?_ _ _ _; focus (simp; done)) | (refine frozen_alloc ?_ ?_; focus (simp; done)) | (refine frozen_keep (below_new _ _) (by with_reducible assumption) ?_))
  have lt1 : w.heap.size + 1 + 1 < w1.heap.size := World.block_lt_of_cell? _ _ c1_8
  go_wp2_with fail
  refine (toIntS_any A_pc c_pc pc hl_pc _ (hx_pc.next (by repeat (first | exact hT1 | refine bnew ?_ _ | refine Below.drew ?_ | refine Below.drewN ?_ _ | (refine below_set _ ?_ ?_; rotate_left; focus (first | omega | (simp; done) | (simp <;> omega))))))).mono ?_
  rintro e2 w2 ⟨B_pc, d_pc, rfl, ho_pc, hb2⟩
  have ap_pa_pc : apart (.slice B_pa pa.length d_pa) (.slice B_pc pc.length d_pc) := apart_of ho_pa ho_pc (by simp)
  have hT2 : Below w.heap.size w w2 := bnext (by repeat (first | exact hT1 | refine bnew ?_ _ | refine Below.drew ?_ | refine Below.drewN ?_ _ | (refine below_set _ ?_ ?_; rotate_left; focus (first | omega | (simp; done) | (simp <;> omega))))) hb2
  have d2_0_0 : (w1.setCell ⟨w.heap.size + 1 + 1, 0, none⟩ (.slice B_pa pa.length d_pa)).cell? ⟨w.heap.size, 0, none⟩ = some (.slice A_pa pa.length c_pa) := (sc_other _ (by simp)).trans c1_0
  have d2_0_1 : (w1.setCell ⟨w.heap.size + 1 + 1, 0, none⟩ (.slice B_pa pa.length d_pa)).cell? ⟨w.heap.size, 1, none⟩ = some (.slice A_pc pc.length c_pc) := (sc_other _ (by simp)).trans c1_1
  have d2_0_2 : (w1.setCell ⟨w.heap.size + 1 + 1, 0, none⟩ (.slice B_pa pa.length d_pa)).cell? ⟨w.heap.size, 2, none⟩ = some (.slice A_pr pr.length c_pr) := (sc_other _ (by simp)).trans c1_2
  have d2_0_3 : (w1.setCell ⟨w.heap.size + 1 + 1, 0, none⟩ (.slice B_pa pa.length d_pa)).cell? ⟨w.heap.size + 1, 0, none⟩ = some (.slice none 0 0) := (sc_other _ (by simp)).trans c1_3
  have d2_0_4 : (w1.setCell ⟨w.heap.size + 1 + 1, 0, none⟩ (.slice B_pa pa.length d_pa)).cell? ⟨w.heap.size + 1, 1, none⟩ = some (.slice none 0 0) := (sc_other _ (by simp)).trans c1_4
  have d2_0_5 : (w1.setCell ⟨w.heap.size + 1 + 1, 0, none⟩ (.slice B_pa pa.length d_pa)).cell? ⟨w.heap.size + 1, 2, none⟩ = some (.slice none 0 0) := (sc_other _ (by simp)).trans c1_5
  have d2_0_6 : (w1.setCell ⟨w.heap.size + 1 + 1, 0, none⟩ (.slice B_pa pa.length d_pa)).cell? ⟨w.heap.size + 1 + 1, 0, none⟩ = some (.slice B_pa pa.length d_pa) := set1b _ c1_6
  have d2_0_7 : (w1.setCell ⟨w.heap.size + 1 + 1, 0, none⟩ (.slice B_pa pa.length d_pa)).cell? ⟨w.heap.size + 1 + 1, 1, none⟩ = some (.slice none 0 0) := (sc_other _ (by simp)).trans c1_7
  have d2_0_8 : (w1.setCell ⟨w.heap.size + 1 + 1, 0, none⟩ (.slice B_pa pa.length d_pa)).cell? ⟨w.heap.size + 1 + 1, 2, none⟩ = some (.slice none 0 0) := (sc_other _ (by simp)).trans c1_8
  have c2_0 : w2.cell? ⟨w.heap.size, 0, none⟩ = some (.slice A_pa pa.length c_pa) := by
    refine cell_keep hb2 ?_
    repeat (first | with_reducible assumption | (with_reducible apply set1b; with_reducible assumption) | (with_reducible refine (sc_other _ ?_).trans ?_; focus (simp; done)) | (refine cell_new' ?_ _ _ _ rfl; focus (simp; done)) | with_reducible refine cell_keep (below_new _ _) ?_)
  have c2_1 : w2.cell? ⟨w.heap.size, 1, none⟩ = some (.slice A_pc pc.length c_pc) := by
    refine cell_keep hb2 ?_
    repeat (first | with_reducible assumption | (with_reducible apply set1b; with_reducible assumption) | (with_reducible refine (sc_other _ ?_).trans ?_; focus (simp; done)) | (refine cell_new' ?_ _ _ _ rfl; focus (simp; done)) | with_reducible refine cell_keep (below_new _ _) ?_)
  have c2_2 : w2.cell? ⟨w.heap.size, 2, none⟩ = some (.slice A_pr pr.length c_pr) := by
    refine cell_keep hb2 ?_
    repeat (first | with_reducible assumption | (with_reducible apply set1b; with_reducible assumption) | (with_reducible refine (sc_other _ ?_).trans ?_; focus (simp; done)) | (refine cell_new' ?_ _ _ _ rfl; focus (simp; done)) | with_reducible refine cell_keep (below_new _ _) ?_)
  have c2_3 : w2.cell? ⟨w.heap.size + 1, 0, none⟩ = some (.slice none 0 0) := by
    refine cell_keep hb2 ?_
    repeat (first | with_reducible assumption | (with_reducible apply set1b; with_reducible assumption) | (with_reducible refine (sc_other _ ?_).trans ?_; focus (simp; done)) | (refine cell_new' ?_ _ _ _ rfl; focus (simp; done)) | with_reducible refine cell_keep (below_new _ _) ?_)
  have f2_3 : w2.frozen? ⟨w.heap.size + 1, 0, none⟩ = false := by
    refine frozen_keep (v := .slice none 0 0) hb2 ?_ ?_
    · repeat (first | with_reducible assumption | (with_reducible apply set1b; with_reducible assumption) | (with_reducible refine (sc_other _ ?_).trans ?_; focus (simp; done)) | (refine cell_new' ?_ _ _ _ rfl; focus (simp; done)) | with_reducible refine cell_keep (below_new _ _) ?_)
    · repeat (first | with_reducible assumption | with_reducible refine frozen_set _ ?_ | (refine frozen_new' ?_ _ _ _; focus (simp; done)) | (refine frozen_alloc ?_ ?_; focus (simp; done)) | (refine frozen_keep (below_new _ _) (by with_reducible assumption) ?_))
  have c2_4 : w2.cell? ⟨w.heap.size + 1, 1, none⟩ = some (.slice none 0 0) := by
    refine cell_keep hb2 ?_
    repeat (first | with_reducible assumption | (with_reducible apply set1b; with_reducible assumption) | (with_reducible refine (sc_other _ ?_).trans ?_; focus (simp; done)) | (refine cell_new' ?_ _ _ _ rfl; focus (simp; done)) | with_reducible refine cell_keep (below_new _ _) ?_)
  have f2_4 : w2.frozen? ⟨w.heap.size + 1, 1, none⟩ = false := by
    refine frozen_keep (v := .slice none 0 0) hb2 ?_ ?_
    · repeat (first | with_reducible assumption | (with_reducible apply set1b; with_reducible assumption) | (with_reducible refine (sc_other _ ?_).trans ?_; focus (simp; done)) | (refine cell_new' ?_ _ _ _ rfl; focus (simp; done)) | with_reducible refine cell_keep (below_new _ _) ?_)
    · repeat (first | with_reducible assumption | with_reducible refine frozen_set _ ?_ | (refine frozen_new' ?_ _ _ _; focus (simp; done)) | (refine frozen_alloc ?_ ?_; focus (simp; done)) | (refine frozen_keep (below_new _ _) (by with_reducible assumption) ?_))
  have c2_5 : w2.cell? ⟨w.heap.size + 1, 2, none⟩ = some (.slice none 0 0) := by
    refine cell_keep hb2 ?_
    repeat (first | with_reducible assumption | (with_reducible apply set1b; with_reducible assumption) | (with_reducible refine (sc_other _ ?_).trans ?_; focus (simp; done)) | (refine cell_new' ?_ _ _ _ rfl; focus (simp; done)) | with_reducible refine cell_keep (below_new _ _) ?_)
  have f2_5 : w2.frozen? ⟨w.heap.size + 1, 2, none⟩ = false := by
    refine frozen_keep (v := .slice none 0 0) hb2 ?_ ?_
    · repeat (first | with_reducible assumption | (with_reducible apply set1b; with_reducible assumption) | (with_reducible refine (sc_other _ ?_).trans ?_; focus (simp; done)) | (refine cell_new' ?_ _ _ _ rfl; focus (simp; done)) | with_reducible refine cell_keep (below_new _ _) ?_)
    · repeat (first | with_reducible assumption | with_reducible refine frozen_set _ ?_ | (refine frozen_new' ?_ _ _ _; focus (simp; done)) | (refine frozen_alloc ?_ ?_; focus (simp; done)) | (refine frozen_keep (below_new _ _) (by with_reducible assumption) ?_))
  have c2_6 : w2.cell? ⟨w.heap.size + 1 + 1, 0, none⟩ = some (.slice B_pa pa.length d_pa) := by
    refine cell_keep hb2 ?_
    repeat (first | with_reducible assumption | (with_reducible apply set1b; with_reducible assumption) | (with_reducible refine (sc_other _ ?_).trans ?_; focus (simp; done)) | (refine cell_new' ?_ _ _ _ rfl; focus (simp; done)) | with_reducible refine cell_keep (below_new _ _) ?_)
  have f2_6 : w2.frozen? ⟨w.heap.size + 1 + 1, 0, none⟩ = false := by
    refine frozen_keep (v := .slice B_pa pa.length d_pa) hb2 ?_ ?_
    · repeat (first | with_reducible assumption | (with_reducible apply set1b; with_reducible assumption) | (with_reducible refine (sc_other _ ?_).trans ?_; focus (simp; done)) | (refine cell_new' ?_ _ _ _ rfl; focus (simp; done)) | with_reducible refine cell_keep (below_new _ _) ?_)
    · repeat (first | with_reducible assumption | with_reducible refine frozen_set _ ?_ | (refine frozen_new' ?_ _ _ _; focus (simp; done)) | (refine frozen_alloc ?_ ?_; focus (simp; done)) | (refine frozen_keep (below_new _ _) (by with_reducible assumption) ?_))
  have c2_7 : w2.cell? ⟨w.heap.size + 1 + 1, 1, none⟩ = some (.slice none 0 0) := by
    refine cell_keep hb2 ?_
    repeat (first | with_reducible assumption | (with_reducible apply set1b; with_reducible assumption) | (with_reducible refine (sc_other _ ?_).trans ?_; focus (simp; done)) | (refine cell_new' ?_ _ _ _ rfl; focus (simp; done)) | with_reducible refine cell_keep (below_new _ _) ?_)
  have f2_7 : w2.frozen? ⟨w.heap.size + 1 + 1, 1, none⟩ = false := by
    refine frozen_keep (v := .slice none 0 0) hb2 ?_ ?_
    · repeat (first | with_reducible assumption | (with_reducible apply set1b; with_reducible assumption) | (with_reducible refine (sc_other _ ?_).trans ?_; focus (simp; done)) | (refine cell_new' ?_ _ _ _ rfl; focus (simp; done)) | with_reducible refine cell_keep (below_new _ _) ?_)
    · repeat (first | with_reducible assumption | with_reducible refine frozen_set _ ?_ | (refine frozen_new' ?_ _ _ _; focus (simp; done)) | (refine frozen_alloc ?_ ?_; focus (simp; done)) | (refine frozen_keep (below_new _ _) (by with_reducible assumption) ?_))
  have c2_8 : w2.cell? ⟨w.heap.size + 1 + 1, 2, none⟩ = some (.slice none 0 0) := by
    refine cell_keep hb2 ?_
    repeat (first | with_reducible assumption | (with_reducible apply set1b; with_reducible assumption) | (with_reducible refine (sc_other _ ?_).trans ?_; focus (simp; done)) | (refine cell_new' ?_ _ _ _ rfl; focus (simp; done)) | with_reducible refine cell_keep (below_new _ _) ?_)
  have f2_8 : w2.frozen? ⟨w.heap.size + 1 + 1, 2, none⟩ = false := by
    refine frozen_keep (v := .slice none 0 0) hb2 ?_ ?_
    · repeat (first | with_reducible assumption | (with_reducible apply set1b; with_reducible assumption) | (with_reducible refine (sc_other _ ?_).trans ?_; focus (simp; done)) | (refine cell_new' ?_ _ _ _ rfl; focus (simp; done)) | with_reducible refine cell_keep (below_new _ _) ?_)
    · repeat (first | with_reducible assumption | with_reducible refine frozen_set _ ?_ | (refine frozen_new' ?_ _ _ _; focus (simp; done)) | (refine frozen_alloc ?_ ?_; focus (simp; done)) | (refine frozen_keep (below_new _ _) (by with_reducible assumption) ?_))
  clear d2_0_0 d2_0_1 d2_0_2 d2_0_3 d2_0_4 d2_0_5 d2_0_6 d2_0_7 d2_0_8
  clear c1_0 c1_1 c1_2 c1_3 f1_3 c1_4 f1_4 c1_5 f1_5 c1_6 f1_6 c1_7 f1_7 c1_8 f1_8
  have hS2 : Below (w1.setCell ⟨w.heap.size + 1 + 1, 0, none⟩ (.slice B_pa pa.length d_pa)).heap.size (w1.setCell ⟨w.heap.size + 1 + 1, 0, none⟩ (.slice B_pa pa.length d_pa)) w2 := bnext (by repeat (first | exact Below.refl _ _ | refine bnew ?_ _ | refine Below.drew ?_ | refine Below.drewN ?_ _ | (refine below_set _ ?_ ?_; rotate_left; focus (first | omega | (simp; done) | (simp <;> omega))))) hb2
  have ho_pa_2 := (ho_pa.set_ ⟨w.heap.size + 1 + 1, 0, none⟩ (.slice B_pa pa.length d_pa) (by simp <;> omega)).below hS2
  clear ho_pa
  have lt2 : w.heap.size + 1 + 1 < w2.heap.size := World.block_lt_of_cell? _ _ c2_8
  go_wp2_with fail
  refine (toIntS_any A_pr c_pr pr hl_pr _ (hx_pr.next (by repeat (first | exact hT2 | refine bnew ?_ _ | refine Below.drew ?_ | refine Below.drewN ?_ _ | (refine below_set _ ?_ ?_; rotate_left; focus (first | omega | (simp; done) | (simp <;> omega))))))).mono ?_
  rintro e3 w3 ⟨B_pr, d_pr, rfl, ho_pr, hb3⟩
  have ap_pc_pr : apart (.slice B_pc pc.length d_pc) (.slice B_pr pr.length d_pr) := apart_of ho_pc ho_pr (by simp)
  have ap_pa_pr : apart (.slice B_pa pa.length d_pa) (.slice B_pr pr.length d_pr) := apart_of ho_pa_2 ho_pr (by simp)
  have hT3 : Below w.heap.size w w3 := bnext (by repeat (first | exact hT2 | refine bnew ?_ _ | refine Below.drew ?_ | refine Below.drewN ?_ _ | (refine below_set _ ?_ ?_; rotate_left; focus (first | omega | (simp; done) | (simp <;> omega))))) hb3
  have d3_0_0 : (w2.setCell ⟨w.heap.size + 1 + 1, 1, none⟩ (.slice B_pc pc.length d_pc)).cell? ⟨w.heap.size, 0, none⟩ = some (.slice A_pa pa.length c_pa) := (sc_other _ (by simp)).trans c2_0
  have d3_0_1 : (w2.setCell ⟨w.heap.size + 1 + 1, 1, none⟩ (.slice B_pc pc.length d_pc)).cell? ⟨w.heap.size, 1, none⟩ = some (.slice A_pc pc.length c_pc) := (sc_other _ (by simp)).trans c2_1
  have d3_0_2 : (w2.setCell ⟨w.heap.size + 1 + 1, 1, none⟩ (.slice B_pc pc.length d_pc)).cell? ⟨w.heap.size, 2, none⟩ = some (.slice A_pr pr.length c_pr) := (sc_other _ (by simp)).trans c2_2
  have d3_0_3 : (w2.setCell ⟨w.heap.size + 1 + 1, 1, none⟩ (.slice B_pc pc.length d_pc)).cell? ⟨w.heap.size + 1, 0, none⟩ = some (.slice none 0 0) := (sc_other _ (by simp)).trans c2_3
  have d3_0_4 : (w2.setCell ⟨w.heap.size + 1 + 1, 1, none⟩ (.slice B_pc pc.length d_pc)).cell? ⟨w.heap.size + 1, 1, none⟩ = some (.slice none 0 0) := (sc_other _ (by simp)).trans c2_4
  have d3_0_5 : (w2.setCell ⟨w.heap.size + 1 + 1, 1, none⟩ (.slice B_pc pc.length d_pc)).cell? ⟨w.heap.size + 1, 2, none⟩ = some (.slice none 0 0) := (sc_other _ (by simp)).trans c2_5
  have d3_0_6 : (w2.setCell ⟨w.heap.size + 1 + 1, 1, none⟩ (.slice B_pc pc.length d_pc)).cell? ⟨w.heap.size + 1 + 1, 0, none⟩ = some (.slice B_pa pa.length d_pa) := (sc_other _ (by simp)).trans c2_6
  have d3_0_7 : (w2.setCell ⟨w.heap.size + 1 + 1, 1, none⟩ (.slice B_pc pc.length d_pc)).cell? ⟨w.heap.size + 1 + 1, 1, none⟩ = some (.slice B_pc pc.length d_pc) := set1b _ c2_7
  have d3_0_8 : (w2.setCell ⟨w.heap.size + 1 + 1, 1, none⟩ (.slice B_pc pc.length d_pc)).cell? ⟨w.heap.size + 1 + 1, 2, none⟩ = some (.slice none 0 0) := (sc_other _ (by simp)).trans c2_8
  have c3_0 : w3.cell? ⟨w.heap.size, 0, none⟩ = some (.slice A_pa pa.length c_pa) := by
    refine cell_keep hb3 ?_
    repeat (first | with_reducible assumption | (with_reducible apply set1b; with_reducible assumption) | (with_reducible refine (sc_other _ ?_).trans ?_; focus (simp; done)) | (refine cell_new' ?_ _ _ _ rfl; focus (simp; done)) | with_reducible refine cell_keep (below_new _ _) ?_)
  have c3_1 : w3.cell? ⟨w.heap.size, 1, none⟩ = some (.slice A_pc pc.length c_pc) := by
    refine cell_keep hb3 ?_
    repeat (first | with_reducible assumption | (with_reducible apply set1b; with_reducible assumption) | (with_reducible refine (sc_other _ ?_).trans ?_; focus (simp; done)) | (refine cell_new' ?_ _ _ _ rfl; focus (simp; done)) | with_reducible refine cell_keep (below_new _ _) ?_)
  have c3_2 : w3.cell? ⟨w.heap.size, 2, none⟩ = some (.slice A_pr pr.length c_pr) := by
    refine cell_keep hb3 ?_
    repeat (first | with_reducible assumption | (with_reducible apply set1b; with_reducible assumption) | (with_reducible refine (sc_other _ ?_).trans ?_; focus (simp; done)) | (refine cell_new' ?_ _ _ _ rfl; focus (simp; done)) | with_reducible refine cell_keep (below_new _ _) ?_)
  have c3_3 : w3.cell? ⟨w.heap.size + 1, 0, none⟩ = some (.slice none 0 0) := by
    refine cell_keep hb3 ?_
    repeat (first | with_reducible assumption | (with_reducible apply set1b; with_reducible assumption) | (with_reducible refine (sc_other _ ?_).trans ?_; focus (simp; done)) | (refine cell_new' ?_ _ _ _ rfl; focus (simp; done)) | with_reducible refine cell_keep (below_new _ _) ?_)
  have f3_3 : w3.frozen? ⟨w.heap.size + 1, 0, none⟩ = false := by
    refine frozen_keep (v := .slice none 0 0) hb3 ?_ ?_
    · repeat (first | with_reducible assumption | (with_reducible apply set1b; with_reducible assumption) | (with_reducible refine (sc_other _ ?_).trans ?_; focus (simp; done)) | (refine cell_new' ?_ _ _ _ rfl; focus (simp; done)) | with_reducible refine cell_keep (below_new _ _) ?_)
    · repeat (first | with_reducible assumption | with_reducible refine frozen_set _ ?_ | (refine frozen_new' ?_ _ _ _; focus (simp; done)) | (refine frozen_alloc ?_ ?_; focus (simp; done)) | (refine frozen_keep (below_new _ _) (by with_reducible assumption) ?_))
  have c3_4 : w3.cell? ⟨w.heap.size + 1, 1, none⟩ = some (.slice none 0 0) := by
    refine cell_keep hb3 ?_
    repeat (first | with_reducible assumption | (with_reducible apply set1b; with_reducible assumption) | (with_reducible refine (sc_other _ ?_).trans ?_; focus (simp; done)) | (refine cell_new' ?_ _ _ _ rfl; focus (simp; done)) | with_reducible refine cell_keep (below_new _ _) ?_)
  have f3_4 : w3.frozen? ⟨w.heap.size + 1, 1, none⟩ = false := by
    refine frozen_keep (v := .slice none 0 0) hb3 ?_ ?_
    · repeat (first | with_reducible assumption | (with_reducible apply set1b; with_reducible assumption) | (with_reducible refine (sc_other _ ?_).trans ?_; focus (simp; done)) | (refine cell_new' ?_ _ _ _ rfl; focus (simp; done)) | with_reducible refine cell_keep (below_new _ _) ?_)
    · repeat (first | with_reducible assumption | with_reducible refine frozen_set _ ?_ | (refine frozen_new' ?_ _ _ _; focus (simp; done)) | (refine frozen_alloc ?_ ?_; focus (simp; done)) | (refine frozen_keep (below_new _ _) (by with_reducible assumption) ?_))
  have c3_5 : w3.cell? ⟨w.heap.size + 1, 2, none⟩ = some (.slice none 0 0) := by
    refine cell_keep hb3 ?_
    repeat (first | with_reducible assumption | (with_reducible apply set1b; with_reducible assumption) | (with_reducible refine (sc_other _ ?_).trans ?_; focus (simp; done)) | (refine cell_new' ?_ _ _ _ rfl; focus (simp; done)) | with_reducible refine cell_keep (below_new _ _) ?_)
  have f3_5 : w3.frozen? ⟨w.heap.size + 1, 2, none⟩ = false := by
    refine frozen_keep (v := .slice none 0 0) hb3 ?_ ?_
    · repeat (first | with_reducible assumption | (with_reducible apply set1b; with_reducible assumption) | (with_reducible refine (sc_other _ ?_).trans ?_; focus (simp; done)) | (refine cell_new' ?_ _ _ _ rfl; focus (simp; done)) | with_reducible refine cell_keep (below_new _ _) ?_)
    · repeat (first | with_reducible assumption | with_reducible refine frozen_set _ ?_ | (refine frozen_new' ?_ _ _ _; focus (simp; done)) | (refine frozen_alloc ?_ ?_; focus (simp; done)) | (refine frozen_keep (below_new _ _) (by with_reducible assumption) ?_))
  have c3_6 : w3.cell? ⟨w.heap.size + 1 + 1, 0, none⟩ = some (.slice B_pa pa.length d_pa) := by
    refine cell_keep hb3 ?_
    repeat (first | with_reducible assumption | (with_reducible apply set1b; with_reducible assumption) | (with_reducible refine (sc_other _ ?_).trans ?_; focus (simp; done)) | (refine cell_new' ?_ _ _ _ rfl; focus (simp; done)) | with_reducible refine cell_keep (below_new _ _) ?_)
  have f3_6 : w3.frozen? ⟨w.heap.size + 1 + 1, 0, none⟩ = false := by
    refine frozen_keep (v := .slice B_pa pa.length d_pa) hb3 ?_ ?_
    · repeat (first | with_reducible assumption | (with_reducible apply set1b; with_reducible assumption) | (with_reducible refine (sc_other _ ?_).trans ?_; focus (simp; done)) | (refine cell_new' ?_ _ _ _ rfl; focus (simp; done)) | with_reducible refine cell_keep (below_new _ _) ?_)
    · repeat (first | with_reducible assumption | with_reducible refine frozen_set _ ?_ | (refine frozen_new' ?_ _ _ _; focus (simp; done)) | (refine frozen_alloc ?_ ?_; focus (simp; done)) | (refine frozen_keep (below_new _ _) (by with_reducible assumption) ?_))
  have c3_7 : w3.cell? ⟨w.heap.size + 1 + 1, 1, none⟩ = some (.slice B_pc pc.length d_pc) := by
    refine cell_keep hb3 ?_
    repeat (first | with_reducible assumption | (with_reducible apply set1b; with_reducible assumption) | (with_reducible refine (sc_other _ ?_).trans ?_; focus (simp; done)) | (refine cell_new' ?_ _ _ _ rfl; focus (simp; done)) | with_reducible refine cell_keep (below_new _ _) ?_)
  have f3_7 : w3.frozen? ⟨w.heap.size + 1 + 1, 1, none⟩ = false := by
    refine frozen_keep (v := .slice B_pc pc.length d_pc) hb3 ?_ ?_
    · repeat (first | with_reducible assumption | (with_reducible apply set1b; with_reducible assumption) | (with_reducible refine (sc_other _ ?_).trans ?_; focus (simp; done)) | (refine cell_new' ?_ _ _ _ rfl; focus (simp; done)) | with_reducible refine cell_keep (below_new _ _) ?_)
    · repeat (first | with_reducible assumption | with_reducible refine frozen_set _ ?_ | (refine frozen_new' ?_ _ _ _; focus (simp; done)) | (refine frozen_alloc ?_ ?_; focus (simp; done)) | (refine frozen_keep (below_new _ _) (by with_reducible assumption) ?_))
  have c3_8 : w3.cell? ⟨w.heap.size + 1 + 1, 2, none⟩ = some (.slice none 0 0) := by
    refine cell_keep hb3 ?_
    repeat (first | with_reducible assumption | (with_reducible apply set1b; with_reducible assumption) | (with_reducible refine (sc_other _ ?_).trans ?_; focus (simp; done)) | (refine cell_new' ?_ _ _ _ rfl; focus (simp; done)) | with_reducible refine cell_keep (below_new _ _) ?_)
  have f3_8 : w3.frozen? ⟨w.heap.size + 1 + 1, 2, none⟩ = false := by
    refine frozen_keep (v := .slice none 0 0) hb3 ?_ ?_
    · repeat (first | with_reducible assumption | (with_reducible apply set1b; with_reducible assumption) | (with_reducible refine (sc_other _ ?_).trans ?_; focus (simp; done)) | (refine cell_new' ?_ _ _ _ rfl; focus (simp; done)) | with_reducible refine cell_keep (below_new _ _) ?_)
    · repeat (first | with_reducible assumption | with_reducible refine frozen_set _ ?_ | (refine frozen_new' ?_ _ _ _; focus (simp; done)) | (refine frozen_alloc ?_ ?_; focus (simp; done)) | (refine frozen_keep (below_new _ _) (by with_reducible assumption) ?_))
  clear d3_0_0 d3_0_1 d3_0_2 d3_0_3 d3_0_4 d3_0_5 d3_0_6 d3_0_7 d3_0_8
  clear c2_0 c2_1 c2_2 c2_3 f2_3 c2_4 f2_4 c2_5 f2_5 c2_6 f2_6 c2_7 f2_7 c2_8 f2_8
  have hS3 : Below (w2.setCell ⟨w.heap.size + 1 + 1, 1, none⟩ (.slice B_pc pc.length d_pc)).heap.size (w2.setCell ⟨w.heap.size + 1 + 1, 1, none⟩ (.slice B_pc pc.length d_pc)) w3 := bnext (by repeat (first | exact Below.refl _ _ | refine bnew ?_ _ | refine Below.drew ?_ | refine Below.drewN ?_ _ | (refine below_set _ ?_ ?_; rotate_left; focus (first | omega | (simp; done) | (simp <;> omega))))) hb3
  have ho_pa_3 := (ho_pa_2.set_ ⟨w.heap.size + 1 + 1, 1, none⟩ (.slice B_pc pc.length d_pc) (by simp <;> omega)).below hS3
  clear ho_pa_2
  have ho_pc_3 := (ho_pc.set_ ⟨w.heap.size + 1 + 1, 1, none⟩ (.slice B_pc pc.length d_pc) (by simp <;> omega)).below hS3
  clear ho_pc
  have lt3 : w.heap.size + 1 + 1 < w3.heap.size := World.block_lt_of_cell? _ _ c3_8
  go_wp2
  have d4_0_0 : (w3.setCell ⟨w.heap.size + 1 + 1, 2, none⟩ (.slice B_pr pr.length d_pr)).cell? ⟨w.heap.size, 0, none⟩ = some (.slice A_pa pa.length c_pa) := (sc_other _ (by simp)).trans c3_0
  have d4_0_1 : (w3.setCell ⟨w.heap.size + 1 + 1, 2, none⟩ (.slice B_pr pr.length d_pr)).cell? ⟨w.heap.size, 1, none⟩ = some (.slice A_pc pc.length c_pc) := (sc_other _ (by simp)).trans c3_1
  have d4_0_2 : (w3.setCell ⟨w.heap.size + 1 + 1, 2, none⟩ (.slice B_pr pr.length d_pr)).cell? ⟨w.heap.size, 2, none⟩ = some (.slice A_pr pr.length c_pr) := (sc_other _ (by simp)).trans c3_2
  have d4_0_3 : (w3.setCell ⟨w.heap.size + 1 + 1, 2, none⟩ (.slice B_pr pr.length d_pr)).cell? ⟨w.heap.size + 1, 0, none⟩ = some (.slice none 0 0) := (sc_other _ (by simp)).trans c3_3
  have d4_0_4 : (w3.setCell ⟨w.heap.size + 1 + 1, 2, none⟩ (.slice B_pr pr.length d_pr)).cell? ⟨w.heap.size + 1, 1, none⟩ = some (.slice none 0 0) := (sc_other _ (by simp)).trans c3_4
  have d4_0_5 : (w3.setCell ⟨w.heap.size + 1 + 1, 2, none⟩ (.slice B_pr pr.length d_pr)).cell? ⟨w.heap.size + 1, 2, none⟩ = some (.slice none 0 0) := (sc_other _ (by simp)).trans c3_5
  have d4_0_6 : (w3.setCell ⟨w.heap.size + 1 + 1, 2, none⟩ (.slice B_pr pr.length d_pr)).cell? ⟨w.heap.size + 1 + 1, 0, none⟩ = some (.slice B_pa pa.length d_pa) := (sc_other _ (by simp)).trans c3_6
  have d4_0_7 : (w3.setCell ⟨w.heap.size + 1 + 1, 2, none⟩ (.slice B_pr pr.length d_pr)).cell? ⟨w.heap.size + 1 + 1, 1, none⟩ = some (.slice B_pc pc.length d_pc) := (sc_other _ (by simp)).trans c3_7
  have d4_0_8 : (w3.setCell ⟨w.heap.size + 1 + 1, 2, none⟩ (.slice B_pr pr.length d_pr)).cell? ⟨w.heap.size + 1 + 1, 2, none⟩ = some (.slice B_pr pr.length d_pr) := set1b _ c3_8
  have r3 : (w3.setCell ⟨w.heap.size + 1 + 1, 2, none⟩ (.slice B_pr pr.length d_pr)).cell? ⟨w.heap.size + 1, 0, none⟩ = some (.slice none 0 0) := by
    repeat (first | with_reducible assumption | (with_reducible apply set1b; with_reducible assumption) | (with_reducible refine (sc_other _ ?_).trans ?_; focus (simp; done)) | (refine cell_new' ?_ _ _ _ rfl; focus (simp; done)) | with_reducible refine cell_keep (below_new _ _) ?_)
  have r4 : (w3.setCell ⟨w.heap.size + 1 + 1, 2, none⟩ (.slice B_pr pr.length d_pr)).cell? ⟨w.heap.size + 1, 1, none⟩ = some (.slice none 0 0) := by
    repeat (first | with_reducible assumption | (with_reducible apply set1b; with_reducible assumption) | (with_reducible refine (sc_other _ ?_).trans ?_; focus (simp; done)) | (refine cell_new' ?_ _ _ _ rfl; focus (simp; done)) | with_reducible refine cell_keep (below_new _ _) ?_)
  have r5 : (w3.setCell ⟨w.heap.size + 1 + 1, 2, none⟩ (.slice B_pr pr.length d_pr)).cell? ⟨w.heap.size + 1, 2, none⟩ = some (.slice none 0 0) := by
    repeat (first | with_reducible assumption | (with_reducible apply set1b; with_reducible assumption) | (with_reducible refine (sc_other _ ?_).trans ?_; focus (simp; done)) | (refine cell_new' ?_ _ _ _ rfl; focus (simp; done)) | with_reducible refine cell_keep (below_new _ _) ?_)
  have r6 : (w3.setCell ⟨w.heap.size + 1 + 1, 2, none⟩ (.slice B_pr pr.length d_pr)).cell? ⟨w.heap.size + 1 + 1, 0, none⟩ = some (.slice B_pa pa.length d_pa) := by
    repeat (first | with_reducible assumption | (with_reducible apply set1b; with_reducible assumption) | (with_reducible refine (sc_other _ ?_).trans ?_; focus (simp; done)) | (refine cell_new' ?_ _ _ _ rfl; focus (simp; done)) | with_reducible refine cell_keep (below_new _ _) ?_)
  have r7 : (w3.setCell ⟨w.heap.size + 1 + 1, 2, none⟩ (.slice B_pr pr.length d_pr)).cell? ⟨w.heap.size + 1 + 1, 1, none⟩ = some (.slice B_pc pc.length d_pc) := by
    repeat (first | with_reducible assumption | (with_reducible apply set1b; with_reducible assumption) | (with_reducible refine (sc_other _ ?_).trans ?_; focus (simp; done)) | (refine cell_new' ?_ _ _ _ rfl; focus (simp; done)) | with_reducible refine cell_keep (below_new _ _) ?_)
  have r8 : (w3.setCell ⟨w.heap.size + 1 + 1, 2, none⟩ (.slice B_pr pr.length d_pr)).cell? ⟨w.heap.size + 1 + 1, 2, none⟩ = some (.slice B_pr pr.length d_pr) := by
    repeat (first | with_reducible assumption | (with_reducible apply set1b; with_reducible assumption) | (with_reducible refine (sc_other _ ?_).trans ?_; focus (simp; done)) | (refine cell_new' ?_ _ _ _ rfl; focus (simp; done)) | with_reducible refine cell_keep (below_new _ _) ?_)
  have z0 := set1b (W := (w3.setCell ⟨w.heap.size + 1 + 1, 2, none⟩ (.slice B_pr pr.length d_pr))) (b := w.heap.size + 1) (i := 0) (.slice B_pa pa.length d_pa) r3
  have z1 := set1b (W := ((w3.setCell ⟨w.heap.size + 1 + 1, 2, none⟩ (.slice B_pr pr.length d_pr)).setCell ⟨w.heap.size + 1, 0, none⟩ (.slice B_pa pa.length d_pa))) (b := w.heap.size + 1) (i := 1) (.slice B_pc pc.length d_pc) ((sc_other _ (by simp)).trans r4)
  have z2 := set1b (W := (((w3.setCell ⟨w.heap.size + 1 + 1, 2, none⟩ (.slice B_pr pr.length d_pr)).setCell ⟨w.heap.size + 1, 0, none⟩ (.slice B_pa pa.length d_pa)).setCell ⟨w.heap.size + 1, 1, none⟩ (.slice B_pc pc.length d_pc))) (b := w.heap.size + 1) (i := 2) (.slice B_pr pr.length d_pr) ((sc_other _ (by simp)).trans ((sc_other _ (by simp)).trans r5))
  refine bodyPost_ret (v := .agg #[.slice B_pa pa.length d_pa, .slice B_pc pc.length d_pc, .slice B_pr pr.length d_pr]) (by simp [results, Try.results21, go_sem, r6, r7, r8, z0, z1, z2]) rfl ⟨B_pa, d_pa, B_pc, d_pc, B_pr, d_pr, rfl, ⟨?_, ?_⟩, ?_⟩
  have hq_pa := ((((ho_pa_3.set_ ⟨w.heap.size + 1 + 1, 2, none⟩ (.slice B_pr pr.length d_pr) (by simp <;> omega)).set_ ⟨w.heap.size + 1, 0, none⟩ (.slice B_pa pa.length d_pa) (by simp <;> omega)).set_ ⟨w.heap.size + 1, 1, none⟩ (.slice B_pc pc.length d_pc) (by simp <;> omega)).set_ ⟨w.heap.size + 1, 2, none⟩ (.slice B_pr pr.length d_pr) (by simp <;> omega))
  have hq_pc := ((((ho_pc_3.set_ ⟨w.heap.size + 1 + 1, 2, none⟩ (.slice B_pr pr.length d_pr) (by simp <;> omega)).set_ ⟨w.heap.size + 1, 0, none⟩ (.slice B_pa pa.length d_pa) (by simp <;> omega)).set_ ⟨w.heap.size + 1, 1, none⟩ (.slice B_pc pc.length d_pc) (by simp <;> omega)).set_ ⟨w.heap.size + 1, 2, none⟩ (.slice B_pr pr.length d_pr) (by simp <;> omega))
  have hq_pr := ((((ho_pr.set_ ⟨w.heap.size + 1 + 1, 2, none⟩ (.slice B_pr pr.length d_pr) (by simp <;> omega)).set_ ⟨w.heap.size + 1, 0, none⟩ (.slice B_pa pa.length d_pa) (by simp <;> omega)).set_ ⟨w.heap.size + 1, 1, none⟩ (.slice B_pc pc.length d_pc) (by simp <;> omega)).set_ ⟨w.heap.size + 1, 2, none⟩ (.slice B_pr pr.length d_pr) (by simp <;> omega))
  · intro r hr
    simp only [List.mem_cons, List.not_mem_nil, or_false] at hr
    rcases hr with rfl | rfl | rfl
    · exact hq_pa.lo (by simp <;> omega)
    · exact hq_pc.lo (by simp <;> omega)
    · exact hq_pr.lo (by simp <;> omega)
  · simp only [List.pairwise_cons, List.mem_cons, List.not_mem_nil, or_false, forall_eq_or_imp, forall_eq, false_imp_iff, implies_true, and_true, List.Pairwise.nil]
    exact ⟨⟨ap_pa_pc, ap_pa_pr⟩, ap_pc_pr⟩
  · exact (by repeat (first | exact hT3 | refine bnew ?_ _ | refine Below.drew ?_ | refine Below.drewN ?_ _ | (refine below_set _ ?_ ?_; rotate_left; focus (first | omega | (simp; done) | (simp <;> omega)))))
theorem szProof_any (A_pa : Option Addr) (c_pa : Nat) (pa : List Int) (hl_pa : pa.length ≤ 9223372036854775807) (A_pc : Option Addr) (c_pc : Nat) (pc : List Int) (hl_pc : pc.length ≤ 9223372036854775807) (A_pr : Option Addr) (c_pr : Nat) (pr : List Int) (hl_pr : pr.length ≤ 9223372036854775807) (l : Int) (hl : l ≤ 1048576) (h0 : -1 ≤ l) (w : World) :
    Calls Try.prog 16 #[.agg #[.slice A_pa pa.length c_pa, .slice A_pc pc.length c_pc, .slice A_pr pr.length c_pr], .int .i64 l] w fun en w' => en = .returned (.int .i64 (if l - pa.length - pc.length - pr.length < 0 then -1 else l - pa.length - pc.length - pr.length)) ∧ Below w.heap.size w w' := by
  go_enter Try.func16, Try.ntmps16
  go_wp2_with fail
  refine (szIntS_any A_pa pa.length c_pa (l) (by omega) (by omega) hl_pa _).mono ?_
  rintro e0 w0 ⟨rfl, rfl⟩
  by_cases hz0 : l - pa.length < 0
  · rw [if_pos hz0]
    go_wp2
    go_ret
    exact ⟨ret_int (by first | rfl | rw [if_pos (show (l - pa.length - pc.length - pr.length : Int) < 0 by omega)]), below_new w _⟩
  rw [if_neg hz0]
  go_wp2_with fail
  refine (szIntS_any A_pc pc.length c_pc (l - pa.length) (by omega) (by omega) hl_pc _).mono ?_
  rintro e1 w1 ⟨rfl, rfl⟩
  by_cases hz1 : l - pa.length - pc.length < 0
  · rw [if_pos hz1]
    go_wp2
    go_ret
    exact ⟨ret_int (by first | rfl | rw [if_pos (show (l - pa.length - pc.length - pr.length : Int) < 0 by omega)]), below_new w _⟩
  rw [if_neg hz1]
  go_wp2_with fail
  refine (szIntS_any A_pr pr.length c_pr (l - pa.length - pc.length) (by omega) (by omega) hl_pr _).mono ?_
  rintro e2 w2 ⟨rfl, rfl⟩
  by_cases hz2 : l - pa.length - pc.length - pr.length < 0
  · rw [if_pos hz2]
    go_wp2
    go_ret
    exact ⟨ret_int (by first | rfl | rw [if_pos (show (l - pa.length - pc.length - pr.length : Int) < 0 by omega)]), below_new w _⟩
  rw [if_neg hz2]
  go_wp2
  go_ret
  exact ⟨ret_int (by first | rfl | rw [if_neg hz2]), below_new w _⟩
set_option maxHeartbeats 400000 in
theorem eqProof_same (A_pa : Option Addr) (c_pa : Nat) (pa : List Int) (hl_pa : pa.length ≤ 9223372036854775807) (A_pc : Option Addr) (c_pc : Nat) (pc : List Int) (hl_pc : pc.length ≤ 9223372036854775807) (A_pr : Option Addr) (c_pr : Nat) (pr : List Int) (hl_pr : pr.length ≤ 9223372036854775807) (B_pa : Option Addr) (d_pa : Nat) (B_pc : Option Addr) (d_pc : Nat) (B_pr : Option Addr) (d_pr : Nat) (w : World) (hx_pa : RI w w.heap.size A_pa pa) (hx_pc : RI w w.heap.size A_pc pc) (hx_pr : RI w w.heap.size A_pr pr) (hy_pa : RI w w.heap.size B_pa pa) (hy_pc : RI w w.heap.size B_pc pc) (hy_pr : RI w w.heap.size B_pr pr) :
    Calls Try.prog 25 #[.agg #[.slice A_pa pa.length c_pa, .slice A_pc pc.length c_pc, .slice A_pr pr.length c_pr], .agg #[.slice B_pa pa.length d_pa, .slice B_pc pc.length d_pc, .slice B_pr pr.length d_pr]] w fun en w' => en = .returned (.bool true) ∧ Below w.heap.size w w' := by
  have hT0 : Below w.heap.size w ((w.alloc (.cells #[.slice A_pa pa.length c_pa, .slice A_pc pc.length c_pc, .slice A_pr pr.length c_pr] 38)).alloc (.cells #[.slice B_pa pa.length d_pa, .slice B_pc pc.length d_pc, .slice B_pr pr.length d_pr] 38)) := by repeat (first | exact Below.refl _ _ | refine bnew ?_ _)
  go_enter Try.func25, Try.ntmps25
  go_wp2_with fail
  refine (eqIntS_same A_pa B_pa c_pa d_pa pa hl_pa _ (hx_pa.next (by repeat (first | exact hT0 | refine bnew ?_ _ | refine Below.drew ?_ | refine Below.drewN ?_ _ | (refine below_set _ ?_ ?_; rotate_left; focus (first | omega | (simp; done) | (simp <;> omega)))))) (hy_pa.next (by repeat (first | exact hT0 | refine bnew ?_ _ | refine Below.drew ?_ | refine Below.drewN ?_ _ | (refine below_set _ ?_ ?_; rotate_left; focus (first | omega | (simp; done) | (simp <;> omega))))))).mono ?_
  rintro e1 w1 ⟨rfl, hb1⟩
  have hT1 : Below w.heap.size w w1 := bnext (by repeat (first | exact hT0 | refine bnew ?_ _ | refine Below.drew ?_ | refine Below.drewN ?_ _ | (refine below_set _ ?_ ?_; rotate_left; focus (first | omega | (simp; done) | (simp <;> omega))))) hb1
  have c1_0 : w1.cell? ⟨w.heap.size, 0, none⟩ = some (.slice A_pa pa.length c_pa) := by
    refine cell_keep hb1 ?_
    repeat (first | with_reducible assumption | (with_reducible apply set1b; with_reducible assumption) | (with_reducible refine (sc_other _ ?_).trans ?_; focus (simp; done)) | (refine cell_new' ?_ _ _ _ rfl; focus (simp; done)) | with_reducible refine cell_keep (below_new _ _) ?_)
  have c1_1 : w1.cell? ⟨w.heap.size, 1, none⟩ = some (.slice A_pc pc.length c_pc) := by
    refine cell_keep hb1 ?_
    repeat (first | with_reducible assumption | (with_reducible apply set1b; with_reducible assumption) | (with_reducible refine (sc_other _ ?_).trans ?_; focus (simp; done)) | (refine cell_new' ?_ _ _ _ rfl; focus (simp; done)) | with_reducible refine cell_keep (below_new _ _) ?_)
  have c1_2 : w1.cell? ⟨w.heap.size, 2, none⟩ = some (.slice A_pr pr.length c_pr) := by
    refine cell_keep hb1 ?_
    repeat (first | with_reducible assumption | (with_reducible apply set1b; with_reducible assumption) | (with_reducible refine (sc_other _ ?_).trans ?_; focus (simp; done)) | (refine cell_new' ?_ _ _ _ rfl; focus (simp; done)) | with_reducible refine cell_keep (below_new _ _) ?_)
  have c1_3 : w1.cell? ⟨w.heap.size + 1, 0, none⟩ = some (.slice B_pa pa.length d_pa) := by
    refine cell_keep hb1 ?_
    repeat (first | with_reducible assumption | (with_reducible apply set1b; with_reducible assumption) | (with_reducible refine (sc_other _ ?_).trans ?_; focus (simp; done)) | (refine cell_new' ?_ _ _ _ rfl; focus (simp; done)) | with_reducible refine cell_keep (below_new _ _) ?_)
  have c1_4 : w1.cell? ⟨w.heap.size + 1, 1, none⟩ = some (.slice B_pc pc.length d_pc) := by
    refine cell_keep hb1 ?_
    repeat (first | with_reducible assumption | (with_reducible apply set1b; with_reducible assumption) | (with_reducible refine (sc_other _ ?_).trans ?_; focus (simp; done)) | (refine cell_new' ?_ _ _ _ rfl; focus (simp; done)) | with_reducible refine cell_keep (below_new _ _) ?_)
  have c1_5 : w1.cell? ⟨w.heap.size + 1, 2, none⟩ = some (.slice B_pr pr.length d_pr) := by
    refine cell_keep hb1 ?_
    repeat (first | with_reducible assumption | (with_reducible apply set1b; with_reducible assumption) | (with_reducible refine (sc_other _ ?_).trans ?_; focus (simp; done)) | (refine cell_new' ?_ _ _ _ rfl; focus (simp; done)) | with_reducible refine cell_keep (below_new _ _) ?_)
  go_wp2_with fail
  refine (eqIntS_same A_pc B_pc c_pc d_pc pc hl_pc _ (hx_pc.next (by repeat (first | exact hT1 | refine bnew ?_ _ | refine Below.drew ?_ | refine Below.drewN ?_ _ | (refine below_set _ ?_ ?_; rotate_left; focus (first | omega | (simp; done) | (simp <;> omega)))))) (hy_pc.next (by repeat (first | exact hT1 | refine bnew ?_ _ | refine Below.drew ?_ | refine Below.drewN ?_ _ | (refine below_set _ ?_ ?_; rotate_left; focus (first | omega | (simp; done) | (simp <;> omega))))))).mono ?_
  rintro e2 w2 ⟨rfl, hb2⟩
  have hT2 : Below w.heap.size w w2 := bnext (by repeat (first | exact hT1 | refine bnew ?_ _ | refine Below.drew ?_ | refine Below.drewN ?_ _ | (refine below_set _ ?_ ?_; rotate_left; focus (first | omega | (simp; done) | (simp <;> omega))))) hb2
  have c2_0 : w2.cell? ⟨w.heap.size, 0, none⟩ = some (.slice A_pa pa.length c_pa) := by
    refine cell_keep hb2 ?_
    repeat (first | with_reducible assumption | (with_reducible apply set1b; with_reducible assumption) | (with_reducible refine (sc_other _ ?_).trans ?_; focus (simp; done)) | (refine cell_new' ?_ _ _ _ rfl; focus (simp; done)) | with_reducible refine cell_keep (below_new _ _) ?_)
  have c2_1 : w2.cell? ⟨w.heap.size, 1, none⟩ = some (.slice A_pc pc.length c_pc) := by
    refine cell_keep hb2 ?_
    repeat (first | with_reducible assumption | (with_reducible apply set1b; with_reducible assumption) | (with_reducible refine (sc_other _ ?_).trans ?_; focus (simp; done)) | (refine cell_new' ?_ _ _ _ rfl; focus (simp; done)) | with_reducible refine cell_keep (below_new _ _) ?_)
  have c2_2 : w2.cell? ⟨w.heap.size, 2, none⟩ = some (.slice A_pr pr.length c_pr) := by
    refine cell_keep hb2 ?_
    repeat (first | with_reducible assumption | (with_reducible apply set1b; with_reducible assumption) | (with_reducible refine (sc_other _ ?_).trans ?_; focus (simp; done)) | (refine cell_new' ?_ _ _ _ rfl; focus (simp; done)) | with_reducible refine cell_keep (below_new _ _) ?_)
  have c2_3 : w2.cell? ⟨w.heap.size + 1, 0, none⟩ = some (.slice B_pa pa.length d_pa) := by
    refine cell_keep hb2 ?_
    repeat (first | with_reducible assumption | (with_reducible apply set1b; with_reducible assumption) | (with_reducible refine (sc_other _ ?_).trans ?_; focus (simp; done)) | (refine cell_new' ?_ _ _ _ rfl; focus (simp; done)) | with_reducible refine cell_keep (below_new _ _) ?_)
  have c2_4 : w2.cell? ⟨w.heap.size + 1, 1, none⟩ = some (.slice B_pc pc.length d_pc) := by
    refine cell_keep hb2 ?_
    repeat (first | with_reducible assumption | (with_reducible apply set1b; with_reducible assumption) | (with_reducible refine (sc_other _ ?_).trans ?_; focus (simp; done)) | (refine cell_new' ?_ _ _ _ rfl; focus (simp; done)) | with_reducible refine cell_keep (below_new _ _) ?_)
  have c2_5 : w2.cell? ⟨w.heap.size + 1, 2, none⟩ = some (.slice B_pr pr.length d_pr) := by
    refine cell_keep hb2 ?_
    repeat (first | with_reducible assumption | (with_reducible apply set1b; with_reducible assumption) | (with_reducible refine (sc_other _ ?_).trans ?_; focus (simp; done)) | (refine cell_new' ?_ _ _ _ rfl; focus (simp; done)) | with_reducible refine cell_keep (below_new _ _) ?_)
  clear c1_0 c1_1 c1_2 c1_3 c1_4 c1_5
  go_wp2_with fail
  refine (eqIntS_same A_pr B_pr c_pr d_pr pr hl_pr _ (hx_pr.next (by repeat (first | exact hT2 | refine bnew ?_ _ | refine Below.drew ?_ | refine Below.drewN ?_ _ | (refine below_set _ ?_ ?_; rotate_left; focus (first | omega | (simp; done) | (simp <;> omega)))))) (hy_pr.next (by repeat (first | exact hT2 | refine bnew ?_ _ | refine Below.drew ?_ | refine Below.drewN ?_ _ | (refine below_set _ ?_ ?_; rotate_left; focus (first | omega | (simp; done) | (simp <;> omega))))))).mono ?_
  rintro e3 w3 ⟨rfl, hb3⟩
  have hT3 : Below w.heap.size w w3 := bnext (by repeat (first | exact hT2 | refine bnew ?_ _ | refine Below.drew ?_ | refine Below.drewN ?_ _ | (refine below_set _ ?_ ?_; rotate_left; focus (first | omega | (simp; done) | (simp <;> omega))))) hb3
  have c3_0 : w3.cell? ⟨w.heap.size, 0, none⟩ = some (.slice A_pa pa.length c_pa) := by
    refine cell_keep hb3 ?_
    repeat (first | with_reducible assumption | (with_reducible apply set1b; with_reducible assumption) | (with_reducible refine (sc_other _ ?_).trans ?_; focus (simp; done)) | (refine cell_new' ?_ _ _ _ rfl; focus (simp; done)) | with_reducible refine cell_keep (below_new _ _) ?_)
  have c3_1 : w3.cell? ⟨w.heap.size, 1, none⟩ = some (.slice A_pc pc.length c_pc) := by
    refine cell_keep hb3 ?_
    repeat (first | with_reducible assumption | (with_reducible apply set1b; with_reducible assumption) | (with_reducible refine (sc_other _ ?_).trans ?_; focus (simp; done)) | (refine cell_new' ?_ _ _ _ rfl; focus (simp; done)) | with_reducible refine cell_keep (below_new _ _) ?_)
  have c3_2 : w3.cell? ⟨w.heap.size, 2, none⟩ = some (.slice A_pr pr.length c_pr) := by
    refine cell_keep hb3 ?_
    repeat (first | with_reducible assumption | (with_reducible apply set1b; with_reducible assumption) | (with_reducible refine (sc_other _ ?_).trans ?_; focus (simp; done)) | (refine cell_new' ?_ _ _ _ rfl; focus (simp; done)) | with_reducible refine cell_keep (below_new _ _) ?_)
  have c3_3 : w3.cell? ⟨w.heap.size + 1, 0, none⟩ = some (.slice B_pa pa.length d_pa) := by
    refine cell_keep hb3 ?_
    repeat (first | with_reducible assumption | (with_reducible apply set1b; with_reducible assumption) | (with_reducible refine (sc_other _ ?_).trans ?_; focus (simp; done)) | (refine cell_new' ?_ _ _ _ rfl; focus (simp; done)) | with_reducible refine cell_keep (below_new _ _) ?_)
  have c3_4 : w3.cell? ⟨w.heap.size + 1, 1, none⟩ = some (.slice B_pc pc.length d_pc) := by
    refine cell_keep hb3 ?_
    repeat (first | with_reducible assumption | (with_reducible apply set1b; with_reducible assumption) | (with_reducible refine (sc_other _ ?_).trans ?_; focus (simp; done)) | (refine cell_new' ?_ _ _ _ rfl; focus (simp; done)) | with_reducible refine cell_keep (below_new _ _) ?_)
  have c3_5 : w3.cell? ⟨w.heap.size + 1, 2, none⟩ = some (.slice B_pr pr.length d_pr) := by
    refine cell_keep hb3 ?_
    repeat (first | with_reducible assumption | (with_reducible apply set1b; with_reducible assumption) | (with_reducible refine (sc_other _ ?_).trans ?_; focus (simp; done)) | (refine cell_new' ?_ _ _ _ rfl; focus (simp; done)) | with_reducible refine cell_keep (below_new _ _) ?_)
  clear c2_0 c2_1 c2_2 c2_3 c2_4 c2_5
  go_wp2
  go_ret
  exact ⟨rfl, hT3⟩
set_option maxHeartbeats 800000 in
theorem markProof_any (lo : Nat) (A_pa : Option Addr) (c_pa : Nat) (pa : List Int) (hl_pa : pa.length ≤ 35184372088832) (A_pc : Option Addr) (c_pc : Nat) (pc : List Int) (hl_pc : pc.length ≤ 35184372088832) (A_pr : Option Addr) (c_pr : Nat) (pr : List Int) (hl_pr : pr.length ≤ 35184372088832) (k0 : Int) (h0 : 0 ≤ k0) (h1 : k0 ≤ 1000000) (w : World) (ho : OIs w lo [(.slice A_pa pa.length c_pa, pa), (.slice A_pc pc.length c_pc, pc), (.slice A_pr pr.length c_pr, pr)]) (hlo : lo ≤ w.heap.size) :
    Calls Try.prog 32 #[.agg #[.slice A_pa pa.length c_pa, .slice A_pc pc.length c_pc, .slice A_pr pr.length c_pr], .int .i64 k0] w fun en w' => en = .returned (.int .i64 (k0 + pa.length + pc.length + pr.length)) ∧ OIs w' lo [(.slice A_pa pa.length c_pa, marks (k0) pa.length), (.slice A_pc pc.length c_pc, marks (k0 + pa.length) pc.length), (.slice A_pr pr.length c_pr, marks (k0 + pa.length + pc.length) pr.length)] ∧ Only lo w.heap.size w w' := by
  have q_pa : OI w lo (.slice A_pa pa.length c_pa) pa := ho.1 (.slice A_pa pa.length c_pa, pa) (by simp)
  have lt_pa := q_pa.lt
  have q_pc : OI w lo (.slice A_pc pc.length c_pc) pc := ho.1 (.slice A_pc pc.length c_pc, pc) (by simp)
  have lt_pc := q_pc.lt
  have q_pr : OI w lo (.slice A_pr pr.length c_pr) pr := ho.1 (.slice A_pr pr.length c_pr, pr) (by simp)
  have lt_pr := q_pr.lt
  have hp := ho.2
  simp only [List.pairwise_cons, List.mem_cons, List.not_mem_nil, or_false, forall_eq_or_imp, forall_eq, false_imp_iff, implies_true, and_true, List.Pairwise.nil] at hp
  obtain ⟨⟨ap_pa_pc, ap_pa_pr⟩, ap_pc_pr⟩ := hp
  have HOS := Lib.hid ho
  clear ho
  have p0_pa : OI (w.alloc (.cells #[.slice A_pa pa.length c_pa, .slice A_pc pc.length c_pc, .slice A_pr pr.length c_pr] 38)) lo (.slice A_pa pa.length c_pa) pa := q_pa.below (below_new w _)
  have p0_pc : OI (w.alloc (.cells #[.slice A_pa pa.length c_pa, .slice A_pc pc.length c_pc, .slice A_pr pr.length c_pr] 38)) lo (.slice A_pc pc.length c_pc) pc := q_pc.below (below_new w _)
  have p0_pr : OI (w.alloc (.cells #[.slice A_pa pa.length c_pa, .slice A_pc pc.length c_pc, .slice A_pr pr.length c_pr] 38)) lo (.slice A_pr pr.length c_pr) pr := q_pr.below (below_new w _)
  have hO0 : Only lo w.heap.size w (w.alloc (.cells #[.slice A_pa pa.length c_pa, .slice A_pc pc.length c_pc, .slice A_pr pr.length c_pr] 38)) := Only.of_below (below_new w _) hlo
  go_enter Try.func32, Try.ntmps32
  go_wp2_with fail
  refine (markIntS_any lo A_pa c_pa pa (k0) hl_pa (by omega) (by omega) _ p0_pa).mono ?_
  rintro e1 w1 ⟨rfl, m1_pa, hg1⟩
  have c1_0 : w1.cell? ⟨w.heap.size, 0, none⟩ = some (.slice A_pa pa.length c_pa) := hg1.cell (by repeat (first | with_reducible assumption | (with_reducible apply set1b; with_reducible assumption) | (with_reducible refine (sc_other _ ?_).trans ?_; focus (simp; done)) | (refine cell_new' ?_ _ _ _ rfl; focus (simp; done)) | with_reducible refine cell_keep (below_new _ _) ?_)) (fun e => by have := (lt_pa _ e.symm).2; simp at this)
  have c1_1 : w1.cell? ⟨w.heap.size, 1, none⟩ = some (.slice A_pc pc.length c_pc) := hg1.cell (by repeat (first | with_reducible assumption | (with_reducible apply set1b; with_reducible assumption) | (with_reducible refine (sc_other _ ?_).trans ?_; focus (simp; done)) | (refine cell_new' ?_ _ _ _ rfl; focus (simp; done)) | with_reducible refine cell_keep (below_new _ _) ?_)) (fun e => by have := (lt_pa _ e.symm).2; simp at this)
  have c1_2 : w1.cell? ⟨w.heap.size, 2, none⟩ = some (.slice A_pr pr.length c_pr) := hg1.cell (by repeat (first | with_reducible assumption | (with_reducible apply set1b; with_reducible assumption) | (with_reducible refine (sc_other _ ?_).trans ?_; focus (simp; done)) | (refine cell_new' ?_ _ _ _ rfl; focus (simp; done)) | with_reducible refine cell_keep (below_new _ _) ?_)) (fun e => by have := (lt_pa _ e.symm).2; simp at this)
  have sz1 : w.heap.size < w1.heap.size := World.block_lt_of_cell? _ _ c1_0
  have hO1 : Only lo w.heap.size w w1 := hO0.trans (Only.of_grown hg1 (by simp; omega) lt_pa)
  have p1_pc := p0_pc.kept hg1 ap_pa_pc.symm
  have p1_pr := p0_pr.kept hg1 ap_pa_pr.symm
  go_wp2_with fail
  refine (markIntS_any lo A_pc c_pc pc (k0 + pa.length) hl_pc (by omega) (by omega) _ p1_pc).mono ?_
  rintro e2 w2 ⟨rfl, m2_pc, hg2⟩
  have c2_0 : w2.cell? ⟨w.heap.size, 0, none⟩ = some (.slice A_pa pa.length c_pa) := hg2.cell (by repeat (first | with_reducible assumption | (with_reducible apply set1b; with_reducible assumption) | (with_reducible refine (sc_other _ ?_).trans ?_; focus (simp; done)) | (refine cell_new' ?_ _ _ _ rfl; focus (simp; done)) | with_reducible refine cell_keep (below_new _ _) ?_)) (fun e => by have := (lt_pc _ e.symm).2; simp at this)
  have c2_1 : w2.cell? ⟨w.heap.size, 1, none⟩ = some (.slice A_pc pc.length c_pc) := hg2.cell (by repeat (first | with_reducible assumption | (with_reducible apply set1b; with_reducible assumption) | (with_reducible refine (sc_other _ ?_).trans ?_; focus (simp; done)) | (refine cell_new' ?_ _ _ _ rfl; focus (simp; done)) | with_reducible refine cell_keep (below_new _ _) ?_)) (fun e => by have := (lt_pc _ e.symm).2; simp at this)
  have c2_2 : w2.cell? ⟨w.heap.size, 2, none⟩ = some (.slice A_pr pr.length c_pr) := hg2.cell (by repeat (first | with_reducible assumption | (with_reducible apply set1b; with_reducible assumption) | (with_reducible refine (sc_other _ ?_).trans ?_; focus (simp; done)) | (refine cell_new' ?_ _ _ _ rfl; focus (simp; done)) | with_reducible refine cell_keep (below_new _ _) ?_)) (fun e => by have := (lt_pc _ e.symm).2; simp at this)
  have sz2 : w.heap.size < w2.heap.size := World.block_lt_of_cell? _ _ c2_0
  have hO2 : Only lo w.heap.size w w2 := hO1.trans (Only.of_grown hg2 (by omega) lt_pc)
  have p2_pr := p1_pr.kept hg2 ap_pc_pr.symm
  have m2_pa := m1_pa.kept hg2 ap_pa_pc
  clear c1_0 c1_1 c1_2
  go_wp2_with fail
  refine (markIntS_any lo A_pr c_pr pr (k0 + pa.length + pc.length) hl_pr (by omega) (by omega) _ p2_pr).mono ?_
  rintro e3 w3 ⟨rfl, m3_pr, hg3⟩
  have c3_0 : w3.cell? ⟨w.heap.size, 0, none⟩ = some (.slice A_pa pa.length c_pa) := hg3.cell (by repeat (first | with_reducible assumption | (with_reducible apply set1b; with_reducible assumption) | (with_reducible refine (sc_other _ ?_).trans ?_; focus (simp; done)) | (refine cell_new' ?_ _ _ _ rfl; focus (simp; done)) | with_reducible refine cell_keep (below_new _ _) ?_)) (fun e => by have := (lt_pr _ e.symm).2; simp at this)
  have c3_1 : w3.cell? ⟨w.heap.size, 1, none⟩ = some (.slice A_pc pc.length c_pc) := hg3.cell (by repeat (first | with_reducible assumption | (with_reducible apply set1b; with_reducible assumption) | (with_reducible refine (sc_other _ ?_).trans ?_; focus (simp; done)) | (refine cell_new' ?_ _ _ _ rfl; focus (simp; done)) | with_reducible refine cell_keep (below_new _ _) ?_)) (fun e => by have := (lt_pr _ e.symm).2; simp at this)
  have c3_2 : w3.cell? ⟨w.heap.size, 2, none⟩ = some (.slice A_pr pr.length c_pr) := hg3.cell (by repeat (first | with_reducible assumption | (with_reducible apply set1b; with_reducible assumption) | (with_reducible refine (sc_other _ ?_).trans ?_; focus (simp; done)) | (refine cell_new' ?_ _ _ _ rfl; focus (simp; done)) | with_reducible refine cell_keep (below_new _ _) ?_)) (fun e => by have := (lt_pr _ e.symm).2; simp at this)
  have sz3 : w.heap.size < w3.heap.size := World.block_lt_of_cell? _ _ c3_0
  have hO3 : Only lo w.heap.size w w3 := hO2.trans (Only.of_grown hg3 (by omega) lt_pr)
  have m3_pa := m2_pa.kept hg3 ap_pa_pr
  have m3_pc := m2_pc.kept hg3 ap_pc_pr
  clear c2_0 c2_1 c2_2
  go_wp2
  go_ret
  refine ⟨rfl, ⟨?_, ?_⟩, hO3⟩
  · intro r hr
    simp only [List.mem_cons, List.not_mem_nil, or_false] at hr
    rcases hr with rfl | rfl | rfl
    · exact m3_pa
    · exact m3_pc
    · exact m3_pr
  · simp only [List.pairwise_cons, List.mem_cons, List.not_mem_nil, or_false, forall_eq_or_imp, forall_eq, false_imp_iff, implies_true, and_true, List.Pairwise.nil]
    exact ⟨⟨ap_pa_pc, ap_pa_pr⟩, ap_pc_pr⟩
set_option maxHeartbeats 800000 in
theorem heldProof_any (A_pa : Option Addr) (c_pa : Nat) (pa : List Int) (hl_pa : pa.length ≤ 35184372088832) (A_pc : Option Addr) (c_pc : Nat) (pc : List Int) (hl_pc : pc.length ≤ 35184372088832) (A_pr : Option Addr) (c_pr : Nat) (pr : List Int) (hl_pr : pr.length ≤ 35184372088832) (k0 : Int) (h0 : 0 ≤ k0) (h1 : k0 ≤ 1000000) (w : World) (hx_pa : RI w w.heap.size A_pa (marks (k0) pa.length)) (hx_pc : RI w w.heap.size A_pc (marks (k0 + pa.length) pc.length)) (hx_pr : RI w w.heap.size A_pr (marks (k0 + pa.length + pc.length) pr.length)) :
    Calls Try.prog 33 #[.agg #[.slice A_pa pa.length c_pa, .slice A_pc pc.length c_pc, .slice A_pr pr.length c_pr], .int .i64 k0] w fun en w' => en = .returned (.int .i64 (k0 + pa.length + pc.length + pr.length)) ∧ Below w.heap.size w w' := by
  have hT0 : Below w.heap.size w (w.alloc (.cells #[.slice A_pa pa.length c_pa, .slice A_pc pc.length c_pc, .slice A_pr pr.length c_pr] 38)) := by repeat (first | exact Below.refl _ _ | refine bnew ?_ _)
  go_enter Try.func33, Try.ntmps33
  go_wp2_with fail
  refine (heldIntS_any A_pa c_pa pa.length (k0) hl_pa (by omega) (by omega) _ (hx_pa.next (by repeat (first | exact hT0 | refine bnew ?_ _ | refine Below.drew ?_ | refine Below.drewN ?_ _ | (refine below_set _ ?_ ?_; rotate_left; focus (first | omega | (simp; done) | (simp <;> omega))))))).mono ?_
  rintro e1 w1 ⟨rfl, rfl⟩
  have ng_pa : ¬ (k0 + (pa.length : Int)) < 0 := by omega
  go_wp2_with fail
  refine (heldIntS_any A_pc c_pc pc.length (k0 + pa.length) hl_pc (by omega) (by omega) _ (hx_pc.next (by repeat (first | exact hT0 | refine bnew ?_ _ | refine Below.drew ?_ | refine Below.drewN ?_ _ | (refine below_set _ ?_ ?_; rotate_left; focus (first | omega | (simp; done) | (simp <;> omega))))))).mono ?_
  rintro e2 w2 ⟨rfl, rfl⟩
  have ng_pc : ¬ (k0 + pa.length + (pc.length : Int)) < 0 := by omega
  go_wp2_with fail
  refine (heldIntS_any A_pr c_pr pr.length (k0 + pa.length + pc.length) hl_pr (by omega) (by omega) _ (hx_pr.next (by repeat (first | exact hT0 | refine bnew ?_ _ | refine Below.drew ?_ | refine Below.drewN ?_ _ | (refine below_set _ ?_ ?_; rotate_left; focus (first | omega | (simp; done) | (simp <;> omega))))))).mono ?_
  rintro e3 w3 ⟨rfl, rfl⟩
  have ng_pr : ¬ (k0 + pa.length + pc.length + (pr.length : Int)) < 0 := by omega
  go_wp2
  go_ret
  exact ⟨rfl, hT0⟩
/-- what toKeyGen says: the struct, its slices of their own -/
def RetKeyGen (w : World) (kq : List Int) (kk : Int) (kc : List Int) (ks : List Int) (e : Ending) (w' : World) : Prop := ∃ A_kq c_kq A_kc c_kc A_ks c_ks, e = .returned (.agg #[.slice A_kq kq.length c_kq, .int .i64 kk, .slice A_kc kc.length c_kc, .slice A_ks ks.length c_ks]) ∧ OIs w' w.heap.size [(.slice A_kq kq.length c_kq, kq), (.slice A_kc kc.length c_kc, kc), (.slice A_ks ks.length c_ks, ks)] ∧ Below w.heap.size w w'
set_option maxHeartbeats 800000 in
theorem markBases_any (lo : Nat) (bh : Int) (A_bs : Option Addr) (c_bs : Nat) (bs : List Int) (hl_bs : bs.length ≤ 35184372088832) (k0 : Int) (h0 : 0 ≤ k0) (h1 : k0 ≤ 1000000) (w : World) (ho : OIs w lo [(.slice A_bs bs.length c_bs, bs)]) (hlo : lo ≤ w.heap.size) :
    Calls Try.prog 30 #[.agg #[.int .i64 bh, .slice A_bs bs.length c_bs], .int .i64 k0] w fun en w' => en = .returned (.int .i64 (k0 + bs.length)) ∧ OIs w' lo [(.slice A_bs bs.length c_bs, marks (k0) bs.length)] ∧ Only lo w.heap.size w w' := by
  have q_bs : OI w lo (.slice A_bs bs.length c_bs) bs := ho.1 (.slice A_bs bs.length c_bs, bs) (by simp)
  have lt_bs := q_bs.lt
  have HOS := Lib.hid ho
  clear ho
  have p0_bs : OI (w.alloc (.cells #[.int .i64 bh, .slice A_bs bs.length c_bs] 35)) lo (.slice A_bs bs.length c_bs) bs := q_bs.below (below_new w _)
  have hO0 : Only lo w.heap.size w (w.alloc (.cells #[.int .i64 bh, .slice A_bs bs.length c_bs] 35)) := Only.of_below (below_new w _) hlo
  go_enter Try.func30, Try.ntmps30
  go_wp2_with fail
  refine (markIntS_any lo A_bs c_bs bs (k0) hl_bs (by omega) (by omega) _ p0_bs).mono ?_
  rintro e1 w1 ⟨rfl, m1_bs, hg1⟩
  have c1_0 : w1.cell? ⟨w.heap.size, 0, none⟩ = some (.int .i64 bh) := hg1.cell (by repeat (first | with_reducible assumption | (with_reducible apply set1b; with_reducible assumption) | (with_reducible refine (sc_other _ ?_).trans ?_; focus (simp; done)) | (refine cell_new' ?_ _ _ _ rfl; focus (simp; done)) | with_reducible refine cell_keep (below_new _ _) ?_)) (fun e => by have := (lt_bs _ e.symm).2; simp at this)
  have c1_1 : w1.cell? ⟨w.heap.size, 1, none⟩ = some (.slice A_bs bs.length c_bs) := hg1.cell (by repeat (first | with_reducible assumption | (with_reducible apply set1b; with_reducible assumption) | (with_reducible refine (sc_other _ ?_).trans ?_; focus (simp; done)) | (refine cell_new' ?_ _ _ _ rfl; focus (simp; done)) | with_reducible refine cell_keep (below_new _ _) ?_)) (fun e => by have := (lt_bs _ e.symm).2; simp at this)
  have sz1 : w.heap.size < w1.heap.size := World.block_lt_of_cell? _ _ c1_0
  have hO1 : Only lo w.heap.size w w1 := hO0.trans (Only.of_grown hg1 (by simp; omega) lt_bs)
  go_wp2
  go_ret
  refine ⟨rfl, ⟨?_, ?_⟩, hO1⟩
  · intro r hr
    simp only [List.mem_cons, List.not_mem_nil, or_false] at hr
    rcases hr with rfl
    · exact m1_bs
  · simp
end Go.Proofs.Ytljlimlgdnbllaa
