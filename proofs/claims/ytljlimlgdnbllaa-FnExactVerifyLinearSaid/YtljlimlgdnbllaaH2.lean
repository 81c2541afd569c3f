/- Walks: digests (the reference). -/
import Derived.Test.YtljlimlgdnbllaaH1
import Derived.Deep.QuietTactic
import Derived.BigQuiet
set_option linter.all false
set_option linter.unusedVariables false
set_option linter.unusedSimpArgs false
namespace Go.Proofs.Ytljlimlgdnbllaa
open Go.RowKit
set_option maxHeartbeats 1600000 in
theorem absorb_any (b : Nat) (s t x : Int) (hs : 0 ≤ s ∧ s < 2147483647) (ht : 0 ≤ t ∧ t < 2147483647) (hx : 0 ≤ x ∧ x ≤ 4611686018427387903) (w : World)
    (c0 : w.cell? ⟨b, 0, none⟩ = some (.int .i64 s)) (c1 : w.cell? ⟨b, 1, none⟩ = some (.int .i64 t)) (f0 : w.frozen? ⟨b, 0, none⟩ = false) (f1 : w.frozen? ⟨b, 1, none⟩ = false) :
    Calls Try.prog 169 #[.pointer (some ⟨b, 0, none⟩), .int .i64 x] w fun en w' => en = .returned (.tuple #[]) ∧ (w'.cell? ⟨b, 0, none⟩ = some (.int .i64 (M.hab (s, t) x).1) ∧ w'.cell? ⟨b, 1, none⟩ = some (.int .i64 (M.hab (s, t) x).2) ∧
      w'.frozen? ⟨b, 0, none⟩ = false ∧ w'.frozen? ⟨b, 1, none⟩ = false) ∧ Below b w w' := by
  have hbw := World.block_lt_of_cell? _ _ c0
  have hbw' : b < w.heap.size := hbw
  have hne : w.heap.size ≠ b := by omega
  obtain ⟨s1, s2⟩ := hs
  obtain ⟨t1, t2⟩ := ht
  obtain ⟨b1, b2⟩ := hx
  have HE := Lib.hid (hab_eq s t x)
  have x1 : 0 ≤ x % 2147483648 := Int.emod_nonneg _ (by omega)
  have x2 : x % 2147483648 < 2147483648 := Int.emod_lt_of_pos _ (by omega)
  have x3 : 0 ≤ x / 2147483648 := by omega
  have x4 : x / 2147483648 < 2147483648 := by omega
  have hT0 : Below b w (w.alloc (.cells #[.int .i64 (x % 2147483648), .int .i64 (x / 2147483648)] 3)) := (Below.refl _ _).alloc (by omega) _
  have e0 := cell_keep (below_new w (.cells #[.int .i64 (x % 2147483648), .int .i64 (x / 2147483648)] 3)) c0
  have e1 := cell_keep (below_new w (.cells #[.int .i64 (x % 2147483648), .int .i64 (x / 2147483648)] 3)) c1
  have g0 := frozen_keep (below_new w (.cells #[.int .i64 (x % 2147483648), .int .i64 (x / 2147483648)] 3)) c0 f0
  have g1 := frozen_keep (below_new w (.cells #[.int .i64 (x % 2147483648), .int .i64 (x / 2147483648)] 3)) c1 f1
  have k0 : (w.alloc (.cells #[.int .i64 (x % 2147483648), .int .i64 (x / 2147483648)] 3)).cell? ⟨w.heap.size, 0, none⟩ = some (.int .i64 (x % 2147483648)) := cell_new' rfl _ _ _ rfl
  have k1 : (w.alloc (.cells #[.int .i64 (x % 2147483648), .int .i64 (x / 2147483648)] 3)).cell? ⟨w.heap.size, 1, none⟩ = some (.int .i64 (x / 2147483648)) := cell_new' rfl _ _ _ rfl
  go_enter Try.func169, Try.ntmps169
  go_wp2
  go_loopw [5, 12] (fun _ I W => ∃ (k : Nat) (s' t' : Int), I = .int .i64 k ∧ ((k = 0 ∧ s' = s ∧ t' = t) ∨ (k = 1 ∧ s' = (48271 * s + x % 2147483648 + 1) % 2147483647 ∧ t' = (69621 * t + x % 2147483648 + 1) % 2147483647) ∨ (k = 2 ∧ s' = (M.hab (s, t) x).1 ∧ t' = (M.hab (s, t) x).2)) ∧
    W.cell? ⟨b, 0, none⟩ = some (.int .i64 s') ∧ W.cell? ⟨b, 1, none⟩ = some (.int .i64 t') ∧ W.frozen? ⟨b, 0, none⟩ = false ∧ W.frozen? ⟨b, 1, none⟩ = false ∧
    W.cell? ⟨w.heap.size, 0, none⟩ = some (.int .i64 (x % 2147483648)) ∧ W.cell? ⟨w.heap.size, 1, none⟩ = some (.int .i64 (x / 2147483648)) ∧ Below b w W) (fun _ I _ => 2 - (intOf I).toNat)
  case atStart => exact ⟨0, s, t, rfl, .inl ⟨rfl, rfl, rfl⟩, e0, e1, g0, g1, k0, k1, hT0⟩
  case round =>
    clear e0 e1 g0 g1 k0 k1 c0 c1 f0 f1
    obtain ⟨k, s', t', rfl, hst, e0, e1, g0, g1, k0, k1, hB⟩ := hrel
    rcases hst with ⟨rfl, rfl, rfl⟩ | ⟨rfl, rfl, rfl⟩ | ⟨rfl, rfl, rfl⟩
    · go_wp2
      go_roundw
      case rel => exact ⟨1, _, _, rfl, .inr (.inl ⟨rfl, rfl, rfl⟩), (sc_other _ (by simp)).trans (set1b _ e0), set1b _ ((sc_other _ (by simp)).trans e1), frozen_set _ (frozen_set _ g0), frozen_set _ (frozen_set _ g1), cell_set _ (cell_set _ k0 hne) hne, cell_set _ (cell_set _ k1 hne) hne, (hB.setCell (Nat.le_refl _) _).setCell (Nat.le_refl _) _⟩
      case measure => simp [intOf]
    · have m1 : 0 ≤ (48271 * s + x % 2147483648 + 1) % 2147483647 := Int.emod_nonneg _ (by omega)
      have m2 : (48271 * s + x % 2147483648 + 1) % 2147483647 < 2147483647 := Int.emod_lt_of_pos _ (by omega)
      have m3 : 0 ≤ (69621 * t + x % 2147483648 + 1) % 2147483647 := Int.emod_nonneg _ (by omega)
      have m4 : (69621 * t + x % 2147483648 + 1) % 2147483647 < 2147483647 := Int.emod_lt_of_pos _ (by omega)
      go_wp2
      go_roundw
      case rel => exact ⟨2, _, _, rfl, .inr (.inr ⟨rfl, rfl, rfl⟩), (sc_other _ (by simp)).trans ((set1b _ e0).trans (by rw [HE.out])), (set1b _ ((sc_other _ (by simp)).trans e1)).trans (by rw [HE.out]), frozen_set _ (frozen_set _ g0), frozen_set _ (frozen_set _ g1), cell_set _ (cell_set _ k0 hne) hne, cell_set _ (cell_set _ k1 hne) hne, (hB.setCell (Nat.le_refl _) _).setCell (Nat.le_refl _) _⟩
      case measure => simp [intOf]
    · go_wp2
      go_end0
      exact ⟨rfl, ⟨e0, e1, g0, g1⟩, hB⟩
set_option maxHeartbeats 1600000 in
theorem hInts_any (A : Option Addr) (c : Nat) (xs : List Int) (hl : xs.length ≤ 400) (hd : ∀ x ∈ xs, 0 ≤ x ∧ x ≤ 4611686018427387903) (w : World) (hx : RI w w.heap.size A xs) :
    Calls Try.prog 164 #[.slice A xs.length c] w fun en w' => en = .returned (.int .i64 (M.hashL xs)) ∧ Below w.heap.size w w' := by
  obtain ⟨f, hf⟩ : ∃ f : Nat → Int × Int, f = fun k => M.hfold ((xs.length : Int) :: xs.take k) := ⟨_, rfl⟩
  have hf0 : f 0 = M.hab (1, 2) xs.length := by rw [hf]; rfl
  have hfs : ∀ k (h : k < xs.length), f (k + 1) = M.hab (f k) xs[k] := fun k h => by
    rw [hf]
    show M.hfold ((xs.length : Int) :: xs.take (k + 1)) = _
    rw [List.take_succ_eq_append_getElem h, ← List.cons_append, M.hfold_snoc]
  have hfe : (f xs.length).1 * 2147483648 + (f xs.length).2 = M.hashL xs := by
    rw [hf]; simp only [List.take_length]; rfl
  have hfl : ∀ k, (0 ≤ (f k).1 ∧ (f k).1 < 2147483647) ∧ (0 ≤ (f k).2 ∧ (f k).2 < 2147483647) := fun k => by rw [hf]; exact M.hfold_lt _
  have HF0 := Lib.hid hf0
  have HFS := Lib.hid hfs
  have HFE := Lib.hid hfe
  have HFL := Lib.hid hfl
  have HD := Lib.hid hd
  have HX := Lib.hid hx
  clear hf0 hfs hfe hfl hf hd hx
  have hT0 := below_new w (.cells #[.int .i64 1, .int .i64 2] 163)
  have e0 : (w.alloc (.cells #[.int .i64 1, .int .i64 2] 163)).cell? ⟨w.heap.size, 0, none⟩ = some (.int .i64 1) := cell_new' rfl _ _ _ rfl
  have e1 : (w.alloc (.cells #[.int .i64 1, .int .i64 2] 163)).cell? ⟨w.heap.size, 1, none⟩ = some (.int .i64 2) := cell_new' rfl _ _ _ rfl
  go_enter Try.func164, Try.ntmps164
  go_wp2_with fail
  refine (absorb_any w.heap.size 1 2 xs.length (by omega) (by omega) (by omega) _ e0 e1 (frozen_new' rfl _ _ _) (frozen_new' rfl _ _ _)).mono ?_
  clear e0 e1
  rintro e w1 ⟨rfl, hc1, hb1⟩
  have HC := Lib.hid hc1
  have hT1 : Below w.heap.size w w1 := hT0.trans hb1
  clear hc1 hT0
  go_wp2
  go_loopw [5, 14] (fun _ I W => ∃ k : Nat, k ≤ xs.length ∧ I = .int .i64 k ∧ (W.cell? ⟨w.heap.size, 0, none⟩ = some (.int .i64 (f k).1) ∧ W.cell? ⟨w.heap.size, 1, none⟩ = some (.int .i64 (f k).2) ∧ W.frozen? ⟨w.heap.size, 0, none⟩ = false ∧ W.frozen? ⟨w.heap.size, 1, none⟩ = false) ∧ Below w.heap.size w W) (fun _ I _ => xs.length - (intOf I).toNat)
  case atStart => exact ⟨0, by omega, rfl, by rw [HF0.out]; exact HC.out, hT1⟩
  case round =>
    obtain ⟨k, hk, rfl, ⟨e0, e1, g0, g1⟩, hB⟩ := hrel
    obtain ⟨l1, l2⟩ := HFL.out k
    by_cases hlt : k < xs.length
    · obtain ⟨ad, rfl, had, hc⟩ := (HX.out.next hB).at_ hlt
      have hk2 := HD.out xs[k] (List.getElem_mem hlt)
      have HS := Lib.hid (HFS.out k hlt)
      go_wp2_with fail
      refine (absorb_any w.heap.size (f k).1 (f k).2 xs[k] l1 l2 hk2 _ e0 e1 g0 g1).mono ?_
      clear e0 e1 g0 g1
      rintro e w2 ⟨rfl, hc2, hb2⟩
      have HC2 := Lib.hid hc2
      clear hc2
      go_wp2
      go_roundw
      case rel => exact ⟨k + 1, by omega, by go_num, by rw [HS.out]; exact HC2.out, hB.trans hb2⟩
      case measure => simp [intOf]; omega
    · obtain rfl : k = xs.length := by omega
      obtain ⟨⟨l3, l4⟩, l5, l6⟩ := HFL.out xs.length
      have HE := Lib.hid HFE.out
      clear hk hlt
      generalize f xs.length = st at *
      obtain ⟨s, t⟩ := st
      go_wp2
      go_quiet (fail)
      go_wp2
      go_ret
      exact ⟨ret_int HE.out, by first | exact bdrewN hB _ | exact hB.drew | exact hB⟩
theorem hLabelled_any (s : ByteArray) (hs : s.size ≤ 40) (A : Option Addr) (c : Nat) (xs : List Int) (hl : xs.length ≤ 359) (hd : ∀ x ∈ xs, 0 ≤ x ∧ x ≤ 4611686018427387903) (w : World) (hx : RI w w.heap.size A xs) :
    Calls Try.prog 152 #[.string s, .slice A xs.length c] w fun en w' => en = .returned (.int .i64 (M.hashL (M.lab s.data.toList xs))) ∧ Below w.heap.size w w' := by
  go_enter Try.func152, Try.ntmps152
  go_wp2_with fail
  refine (l3With_any s hs A c xs (by omega) _ hx).mono ?_
  rintro e w1 ⟨A1, c1, rfl, ho1, hb1⟩
  go_wp2_with fail
  refine (hInts_any A1 c1 (M.lab s.data.toList xs) (by rw [lab_len]; simp; omega) (lab_mem (by simpa using hs) hd) _ ho1.ri).mono ?_
  rintro e w2 ⟨rfl, hb2⟩
  go_wp2
  go_ret
  exact ⟨rfl, bnext hb1 hb2⟩
end Go.Proofs.Ytljlimlgdnbllaa
