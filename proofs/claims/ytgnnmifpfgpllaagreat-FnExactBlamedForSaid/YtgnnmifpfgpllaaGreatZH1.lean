import Derived.Test.YtgnnmifpfgpllaaGreatZN1
import Derived.Test.YtgnnmifpfgpllaaGreatZKit
import Derived.Deep.QuietTactic
import Derived.BigQuiet
import Derived.Test.YtgnnmifpfgpllaaGreatZRel
/- Walks: digests (the program). -/
set_option linter.all false
set_option linter.unusedVariables false
set_option linter.unusedSimpArgs false
namespace Go.Proofs.YtgnnmifpfgpllaaGreat
open Go.RowKit
def digB (x : Int) : Bool := inr x 0 4611686018427387903
def digsB (l : List Int) : Bool := decide (l.length ≤ 400) && l.all digB
theorem digsB_mk {l : List Int} (h : l.length ≤ 400) (h2 : ∀ x ∈ l, 0 ≤ x ∧ x ≤ 4611686018427387903) : digsB l = true := by
  unfold digsB
  simp only [Bool.and_eq_true, decide_eq_true_eq]
  exact ⟨h, List.all_eq_true.2 fun x hx => inr_mk (h2 x hx)⟩
theorem hab_eq (s t x : Int) : M.hab (s, t) x = ((48271 * ((48271 * s + x % 2147483648 + 1) % 2147483647) + x / 2147483648 + 1) % 2147483647, (69621 * ((69621 * t + x % 2147483648 + 1) % 2147483647) + x / 2147483648 + 1) % 2147483647) := rfl
theorem hash_end (l ys : List Int) (h : ys = (l.length : Int) :: l) : (M.hfold ys).1 * 2147483648 + (M.hfold ys).2 = M.hashL l := by subst h; rfl
theorem lab_mem {s : List UInt8} {l : List Int} (hs : s.length ≤ 40) (h : ∀ x ∈ l, 0 ≤ x ∧ x ≤ 4611686018427387903) : ∀ x ∈ M.lab s l, 0 ≤ x ∧ x ≤ 4611686018427387903 := by
  intro x hx
  unfold M.lab at hx
  rcases List.mem_cons.1 hx with rfl | hx
  · omega
  · rcases List.mem_append.1 hx with hx | hx
    · obtain ⟨b, _, rfl⟩ := List.mem_map.1 hx
      have := b.toNat_lt; omega
    · exact h x hx
theorem lab_len (s : List UInt8) (l : List Int) : (M.lab s l).length = 1 + s.length + l.length := by unfold M.lab; simp; omega
theorem isDigest_any (n : Int) (w : World) :
    Calls Tryz.prog 149 #[.int .i64 n] w fun en w' => en = .returned (.bool (digB n)) ∧ w = w' := by
  go_enter Tryz.func149, Tryz.ntmps149
  go_wp2_with (go_at_call 59; refine (within_any _ _ _ _).mono ?_; rintro e w' ⟨rfl, rfl⟩)
  go_ret
  exact ⟨rfl, rfl⟩
set_option maxHeartbeats 400000 in
theorem areDigests_any (A : Option Addr) (c : Nat) (xs : List Int) (hl : xs.length ≤ 9223372036854775807) (w : World) (hx : RI w w.heap.size A xs) :
    Calls Tryz.prog 146 #[.slice A xs.length c] w fun en w' => en = .returned (.bool (digsB xs)) ∧ Below w.heap.size w w' := by
  have heg : ∀ args w, (callFunc 149 args).run Tryz.prog w = .ok (.enter 149 args) w := enters_of Tryz.func149 (by kernel_rfl) rfl
  have H := Lib.hid (areAll_any 149 #[] #[] digB A c xs w heg hx hl fun x _ W _ => (isDigest_any x W).mono fun e w' h => ⟨h.1, h.2 ▸ Below.refl _ _⟩)
  clear hx heg
  go_enter Tryz.func146, Tryz.ntmps146
  rcases Bool.eq_false_or_eq_true (decide (xs.length ≤ 400)) with h3 | h3
  rotate_left
  · have n1 := of_decide_eq_false h3
    have n2 : ¬ (xs.length : Int) ≤ 400 := by omega
    have hR := Lib.hid (show digsB xs = false by unfold digsB; rw [h3]; simp)
    go_wp2
    go_ret
    exact ⟨ret_bool hR.out.symm, Below.refl _ _⟩
  have n1 := of_decide_eq_true h3
  have n2 : (xs.length : Int) ≤ 400 := by omega
  have hR := Lib.hid (show digsB xs = xs.all digB by unfold digsB; rw [h3]; simp)
  go_wp2_with fail
  refine H.out.mono ?_
  rintro e w' ⟨rfl, hb⟩
  go_wp2
  go_ret
  exact ⟨ret_bool hR.out.symm, hb⟩
set_option maxHeartbeats 1600000 in
theorem hash_any (A : Option Addr) (c : Nat) (xs : List Int) (hl : xs.length ≤ 400) (hd : ∀ x ∈ xs, 0 ≤ x ∧ x ≤ 4611686018427387903) (w : World) (hx : RI w w.heap.size A xs) :
    Calls Tryz.prog 147 #[.slice A xs.length c] w fun en w' => en = .returned (.int .i64 (M.hashL xs)) ∧ Below w.heap.size w w' := by
  obtain ⟨ys, hys⟩ : ∃ ys : List Int, ys = (xs.length : Int) :: xs := ⟨_, rfl⟩
  have hyl : ys.length = xs.length + 1 := by rw [hys]; rfl
  have hy0 : 0 < ys.length := by omega
  have hy1 : ys.length ≤ 401 := by omega
  have HL := Lib.hid hyl
  have hyd : ∀ x ∈ ys, 0 ≤ x ∧ x ≤ 4611686018427387903 := by
    intro x h
    rw [hys] at h
    rcases List.mem_cons.1 h with rfl | h
    · omega
    · exact hd x h
  have HD := Lib.hid hyd
  have HY := Lib.hid hys
  clear hyl hyd hys hd
  have hown := OI.lit (w := w) rfl [(xs.length : Int)] (by simp)
  have HO := Lib.hid hown
  clear hown
  have hrd : RI (w.alloc (.cells #[.int .i64 (xs.length : Int)] 3)) w.heap.size A xs := hx.below (below_new w _)
  have HX := Lib.hid hrd
  clear hx hrd
  go_enter Tryz.func147, Tryz.ntmps147
  go_wp2_with (at_builtin; refine wpList_app (by go_simp) _ _ rfl w.heap.size _ [(xs.length : Int)] rfl HO.out w.heap.size A xs.length c xs ys rfl rfl HX.out HY.out (by omega) (by simp) ?_; intro A1 c1 w1 ho hg hat)
  have hT1 : Below w.heap.size w w1 := grown_keep (below_new w _) hg HO.out.ge
  have hr : RI w1 w1.heap.size A1 ys := ho.ri
  clear ho hg hat
  have p1 : (M.hfold (ys.take 0)).1 = 1 := rfl
  go_wp2
  go_loop [3, 4, 6, 7, 8, 15] (fun S T _ _ _ I => ∃ k : Nat, k ≤ ys.length ∧ I = .int .i64 k ∧ S = .int .i64 (M.hfold (ys.take k)).1 ∧ T = .int .i64 (M.hfold (ys.take k)).2) (fun _ _ _ _ _ I => ys.length - (intOf I).toNat)
  case atStart => exact ⟨0, by omega, rfl, rfl, rfl⟩
  case round =>
    obtain ⟨k, hk, rfl, rfl, rfl⟩ := hrel
    obtain ⟨⟨s1, s2⟩, t1, t2⟩ := M.hfold_lt (ys.take k)
    by_cases hlt : k < ys.length
    · obtain ⟨ad, rfl, had, hc⟩ := hr.at_ hlt
      have HR := Lib.hid hr; clear hr
      obtain ⟨b1, b2⟩ := HD.out ys[k] (List.getElem_mem hlt)
      have HE := Lib.hid (show M.hfold (ys.take (k + 1)) = M.hab (M.hfold (ys.take k)) ys[k] by rw [List.take_succ_eq_append_getElem hlt, M.hfold_snoc])
      generalize M.hfold (ys.take k) = st at *
      obtain ⟨s, t⟩ := st
      generalize ys[k] = x at *
      have ha := and_low x b1 (by omega)
      have x1 : 0 ≤ x % 2147483648 := Int.emod_nonneg _ (by omega)
      have x2 : x % 2147483648 < 2147483648 := Int.emod_lt_of_pos _ (by omega)
      have x3 : 0 ≤ x / 2147483648 := by omega
      have x4 : x / 2147483648 < 2147483648 := by omega
      have m1 : 0 ≤ (48271 * s + x % 2147483648 + 1) % 2147483647 := Int.emod_nonneg _ (by omega)
      have m2 : (48271 * s + x % 2147483648 + 1) % 2147483647 < 2147483647 := Int.emod_lt_of_pos _ (by omega)
      have m3 : 0 ≤ (69621 * t + x % 2147483648 + 1) % 2147483647 := Int.emod_nonneg _ (by omega)
      have m4 : (69621 * t + x % 2147483648 + 1) % 2147483647 < 2147483647 := Int.emod_lt_of_pos _ (by omega)
      go_wp2
      go_round
      case rel => exact ⟨k + 1, by omega, by go_num, by rw [HE.out, hab_eq], by rw [HE.out, hab_eq]⟩
      case measure => simp [intOf]; omega
    · have HR := Lib.hid hr; clear hr
      obtain rfl : k = ys.length := by omega
      have HE := Lib.hid (hash_end xs ys HY.out)
      rw [List.take_length] at *
      generalize M.hfold ys = st at *
      obtain ⟨s, t⟩ := st
      go_wp2
      go_ret
      exact ⟨ret_int HE.out, hT1⟩
theorem hashInts_any (A : Option Addr) (c : Nat) (xs : List Int) (hl : xs.length ≤ 400) (hd : ∀ x ∈ xs, 0 ≤ x ∧ x ≤ 4611686018427387903) (w : World) (hx : RI w w.heap.size A xs) :
    Calls Tryz.prog 139 #[.slice A xs.length c] w fun en w' => en = .returned (.tuple #[.int .i64 (M.hashL xs), .bool true]) ∧ Below w.heap.size w w' := by
  have hdg := Lib.hid (digsB_mk hl hd)
  go_enter Tryz.func139, Tryz.ntmps139
  go_wp2_with fail
  refine (areDigests_any A c xs (by omega) _ hx).mono ?_
  rintro e w1 ⟨rfl, hb1⟩
  rw [hdg.out]
  go_wp2_with fail
  refine (hash_any A c xs hl hd _ (hx.next hb1)).mono ?_
  rintro e w2 ⟨rfl, hb2⟩
  go_wp2
  go_ret2
  exact ⟨rfl, bnext hb1 hb2⟩
set_option maxHeartbeats 800000 in
theorem labelled_any (s : ByteArray) (hs : s.size ≤ 40) (A : Option Addr) (c : Nat) (xs : List Int) (hl : xs.length ≤ 400) (w : World) (hx : RI w w.heap.size A xs) :
    Calls Tryz.prog 140 #[.string s, .slice A xs.length c] w (RetI w (M.lab s.data.toList xs)) := by
  obtain ⟨f, hf⟩ : ∃ f : Nat → List Int, f = fun k => (s.size : Int) :: (s.data.toList.take k).map fun b => (b.toNat : Int) := ⟨_, rfl⟩
  have hf0 : f 0 = [(s.size : Int)] := by rw [hf]; rfl
  have hfl : ∀ k, (f k).length ≤ k + 1 := fun k => by rw [hf]; simp; omega
  have hfs : ∀ k (h : k < s.size), f (k + 1) = f k ++ [((s[k]).toNat : Int)] := fun k h => by
    rw [hf]
    have : s.data.toList.take (k + 1) = s.data.toList.take k ++ [s[k]] := by
      rw [List.take_succ_eq_append_getElem (by simpa using h)]; rfl
    simp [this]
  have hfe : M.lab s.data.toList xs = f s.size ++ xs := by
    rw [hf]; unfold M.lab
    have : s.data.toList.take s.size = s.data.toList := List.take_of_length_le (by simp)
    simp [this]
  have HF0 := Lib.hid hf0
  have HFL := Lib.hid hfl
  have HFS := Lib.hid hfs
  have HFE := Lib.hid hfe
  clear hf0 hfl hfs hfe hf
  have HX := Lib.hid hx
  clear hx
  have hst := OI.lit (w := w) rfl [(s.size : Int)] (by simp)
  have HO := Lib.hid (show OI (w.alloc (.cells #[.int .i64 (s.size : Int)] 3)) w.heap.size (.slice (some ⟨w.heap.size, 0, none⟩) 1 1) (f 0) by rw [HF0.out]; exact hst)
  clear hst
  have hT := below_new w (.cells #[.int .i64 (s.size : Int)] 3)
  go_enter Tryz.func140, Tryz.ntmps140
  go_wp2
  go_loopw [5, 6, 12] (fun V _ I W => ∃ k : Nat, k ≤ s.size ∧ I = .int .i64 k ∧ OI W w.heap.size V (f k) ∧ Below w.heap.size w W) (fun _ _ I _ => s.size - (intOf I).toNat)
  case atStart => exact ⟨0, by omega, rfl, HO.out, hT⟩
  case round =>
    obtain ⟨k, hk, rfl, ho, hB⟩ := hrel
    obtain ⟨Av, cv, rfl⟩ := ho.shape
    have hfk := HFL.out k
    have HO2 := Lib.hid ho; clear ho
    by_cases hlt : k < s.size
    · have h1 : (0 : Int) ≤ (k : Int) := by omega
      have h2 : (k : Int) < (s.size : Int) := by omega
      have h3 : (s[k]).toNat < 256 := (s[k]).toNat_lt
      have hbz := hB.size
      have HN := Lib.hid (HFS.out k hlt)
      have hnew : RI (wr.alloc (.cells #[.int .i64 ((s[k]).toNat : Int)] 3)) (wr.alloc (.cells #[.int .i64 ((s[k]).toNat : Int)] 3)).heap.size (some ⟨wr.heap.size, 0, none⟩) [((s[k]).toNat : Int)] := RI.lit wr [((s[k]).toNat : Int)] _ rfl
      have HNEW := Lib.hid hnew; clear hnew
      go_wp2_with (at_builtin; refine wpList_app (by go_simp) _ _ rfl w.heap.size _ (f k) rfl (HO2.out.below (below_new wr _)) _ _ 1 1 [((s[k]).toNat : Int)] (f (k + 1)) rfl rfl HNEW.out HN.out (by have := HFL.out (k + 1); omega) (by simp; omega) ?_; intro A1 c1 w1 ho1 hg1 hat1)
      go_wp2
      go_roundw
      case rel => exact ⟨k + 1, by omega, by go_num, ho1, (hB.alloc hbz _).grown hg1 (by simp; omega) HO2.out.ge⟩
      case measure => simp [intOf]; omega
    · obtain rfl : k = s.size := by omega
      have hxw := HX.out.next hB
      have HXW := Lib.hid hxw; clear hxw
      have hbz := hB.size
      go_wp2_with (at_builtin; refine wpList_app (by go_simp) _ _ rfl w.heap.size _ (f s.size) rfl HO2.out _ A xs.length c xs (M.lab s.data.toList xs) rfl rfl HXW.out HFE.out (by rw [lab_len]; simp; omega) (by omega) ?_; intro A1 c1 w1 ho1 hg1 hat1)
      go_wp2
      go_ret
      exact ⟨A1, c1, rfl, ho1, hB.grown hg1 hbz HO2.out.ge⟩
set_option maxHeartbeats 800000 in
theorem l3With_any (s : ByteArray) (hs : s.size ≤ 40) (A : Option Addr) (c : Nat) (xs : List Int) (hl : xs.length ≤ 400) (w : World) (hx : RI w w.heap.size A xs) :
    Calls Tryz.prog 145 #[.string s, .slice A xs.length c] w (RetI w (M.lab s.data.toList xs)) := by
  obtain ⟨f, hf⟩ : ∃ f : Nat → List Int, f = fun k => (s.size : Int) :: (s.data.toList.take k).map fun b => (b.toNat : Int) := ⟨_, rfl⟩
  have hf0 : f 0 = [(s.size : Int)] := by rw [hf]; rfl
  have hfl : ∀ k, (f k).length ≤ k + 1 := fun k => by rw [hf]; simp; omega
  have hfs : ∀ k (h : k < s.size), f (k + 1) = f k ++ [((s[k]).toNat : Int)] := fun k h => by
    rw [hf]
    have : s.data.toList.take (k + 1) = s.data.toList.take k ++ [s[k]] := by
      rw [List.take_succ_eq_append_getElem (by simpa using h)]; rfl
    simp [this]
  have hfe : M.lab s.data.toList xs = f s.size ++ xs := by
    rw [hf]; unfold M.lab
    have : s.data.toList.take s.size = s.data.toList := List.take_of_length_le (by simp)
    simp [this]
  have HF0 := Lib.hid hf0
  have HFL := Lib.hid hfl
  have HFS := Lib.hid hfs
  have HFE := Lib.hid hfe
  clear hf0 hfl hfs hfe hf
  have HX := Lib.hid hx
  clear hx
  have hst := OI.lit (w := w) rfl [(s.size : Int)] (by simp)
  have HO := Lib.hid (show OI (w.alloc (.cells #[.int .i64 (s.size : Int)] 3)) w.heap.size (.slice (some ⟨w.heap.size, 0, none⟩) 1 1) (f 0) by rw [HF0.out]; exact hst)
  clear hst
  have hT := below_new w (.cells #[.int .i64 (s.size : Int)] 3)
  go_enter Tryz.func145, Tryz.ntmps145
  go_wp2
  go_loopw [5, 6] (fun V I W => ∃ k : Nat, k ≤ s.size ∧ I = .int .i64 k ∧ OI W w.heap.size V (f k) ∧ Below w.heap.size w W) (fun _ I _ => s.size - (intOf I).toNat)
  case atStart => exact ⟨0, by omega, rfl, HO.out, hT⟩
  case round =>
    obtain ⟨k, hk, rfl, ho, hB⟩ := hrel
    obtain ⟨Av, cv, rfl⟩ := ho.shape
    have hfk := HFL.out k
    have HO2 := Lib.hid ho; clear ho
    by_cases hlt : k < s.size
    · have h1 : (0 : Int) ≤ (k : Int) := by omega
      have h2 : (k : Int) < (s.size : Int) := by omega
      have h3 : (s[k]).toNat < 256 := (s[k]).toNat_lt
      have hbz := hB.size
      have HN := Lib.hid (HFS.out k hlt)
      have hnew : RI (wr.alloc (.cells #[.int .i64 ((s[k]).toNat : Int)] 3)) (wr.alloc (.cells #[.int .i64 ((s[k]).toNat : Int)] 3)).heap.size (some ⟨wr.heap.size, 0, none⟩) [((s[k]).toNat : Int)] := RI.lit wr [((s[k]).toNat : Int)] _ rfl
      have HNEW := Lib.hid hnew; clear hnew
      go_wp2_with (at_builtin; refine wpList_app (by go_simp) _ _ rfl w.heap.size _ (f k) rfl (HO2.out.below (below_new wr _)) _ _ 1 1 [((s[k]).toNat : Int)] (f (k + 1)) rfl rfl HNEW.out HN.out (by have := HFL.out (k + 1); omega) (by simp; omega) ?_; intro A1 c1 w1 ho1 hg1 hat1)
      go_wp2
      go_roundw
      case rel => exact ⟨k + 1, by omega, by go_num, ho1, (hB.alloc hbz _).grown hg1 (by simp; omega) HO2.out.ge⟩
      case measure => simp [intOf]; omega
    · obtain rfl : k = s.size := by omega
      have hxw := HX.out.next hB
      have HXW := Lib.hid hxw; clear hxw
      have hbz := hB.size
      go_wp2_with (at_builtin; refine wpList_app (by go_simp) _ _ rfl w.heap.size _ (f s.size) rfl HO2.out _ A xs.length c xs (M.lab s.data.toList xs) rfl rfl HXW.out HFE.out (by rw [lab_len]; simp; omega) (by omega) ?_; intro A1 c1 w1 ho1 hg1 hat1)
      go_wp2
      go_ret
      exact ⟨A1, c1, rfl, ho1, hB.grown hg1 hbz HO2.out.ge⟩
theorem hashLabelled_any (s : ByteArray) (hs : s.size ≤ 40) (A : Option Addr) (c : Nat) (xs : List Int) (hl : xs.length ≤ 359) (hd : ∀ x ∈ xs, 0 ≤ x ∧ x ≤ 4611686018427387903) (w : World) (hx : RI w w.heap.size A xs) :
    Calls Tryz.prog 117 #[.string s, .slice A xs.length c] w fun en w' => en = .returned (.tuple #[.int .i64 (M.hashL (M.lab s.data.toList xs)), .bool true]) ∧ Below w.heap.size w w' := by
  have n1 : (s.size : Int) ≤ 40 := by omega
  have n2 : (xs.length : Int) ≤ 400 := by omega
  go_enter Tryz.func117, Tryz.ntmps117
  go_wp2_with fail
  refine (labelled_any s hs A c xs (by omega) _ hx).mono ?_
  rintro e w1 ⟨A1, c1, rfl, ho1, hb1⟩
  go_wp2_with fail
  refine (hashInts_any A1 c1 (M.lab s.data.toList xs) (by rw [lab_len]; simp; omega) (lab_mem (by simpa using hs) hd) _ ho1.ri).mono ?_
  rintro e w2 ⟨rfl, hb2⟩
  go_wp2
  go_ret2
  exact ⟨rfl, bnext hb1 hb2⟩
end Go.Proofs.YtgnnmifpfgpllaaGreat

/- Walks: digests (the reference). -/
namespace Go.Proofs.YtgnnmifpfgpllaaGreat
open Go.RowKit
set_option maxHeartbeats 1600000 in
theorem absorb_any (b : Nat) (s t x : Int) (hs : 0 ≤ s ∧ s < 2147483647) (ht : 0 ≤ t ∧ t < 2147483647) (hx : 0 ≤ x ∧ x ≤ 4611686018427387903) (w : World)
    (c0 : w.cell? ⟨b, 0, none⟩ = some (.int .i64 s)) (c1 : w.cell? ⟨b, 1, none⟩ = some (.int .i64 t)) (f0 : w.frozen? ⟨b, 0, none⟩ = false) (f1 : w.frozen? ⟨b, 1, none⟩ = false) :
    Calls Tryz.prog 148 #[.pointer (some ⟨b, 0, none⟩), .int .i64 x] w fun en w' => en = .returned (.tuple #[]) ∧ (w'.cell? ⟨b, 0, none⟩ = some (.int .i64 (M.hab (s, t) x).1) ∧ w'.cell? ⟨b, 1, none⟩ = some (.int .i64 (M.hab (s, t) x).2) ∧
      w'.frozen? ⟨b, 0, none⟩ = false ∧ w'.frozen? ⟨b, 1, none⟩ = false) ∧ Below b w w' := by
  have hbw := World.block_lt_of_cell? _ _ c0
  have hbw' : b < w.heap.size := hbw
  have hne : w.heap.size ≠ b := by omega
  obtain ⟨s1, s2⟩ := hs
  obtain ⟨t1, t2⟩ := ht
  obtain ⟨b1, b2⟩ := hx
  have HE := Lib.hid (hab_eq s t x)
  have x1 : 0 ≤ x % 2147483648 := Int.emod_nonneg _ (by omega)
  have x2 : x % 2147483648 < 2147483648 := Int.emod_lt_of_pos _ (by omega)
  have x3 : 0 ≤ x / 2147483648 := by omega
  have x4 : x / 2147483648 < 2147483648 := by omega
  have hT0 : Below b w (w.alloc (.cells #[.int .i64 (x % 2147483648), .int .i64 (x / 2147483648)] 3)) := (Below.refl _ _).alloc (by omega) _
  have e0 := cell_keep (below_new w (.cells #[.int .i64 (x % 2147483648), .int .i64 (x / 2147483648)] 3)) c0
  have e1 := cell_keep (below_new w (.cells #[.int .i64 (x % 2147483648), .int .i64 (x / 2147483648)] 3)) c1
  have g0 := frozen_keep (below_new w (.cells #[.int .i64 (x % 2147483648), .int .i64 (x / 2147483648)] 3)) c0 f0
  have g1 := frozen_keep (below_new w (.cells #[.int .i64 (x % 2147483648), .int .i64 (x / 2147483648)] 3)) c1 f1
  have k0 : (w.alloc (.cells #[.int .i64 (x % 2147483648), .int .i64 (x / 2147483648)] 3)).cell? ⟨w.heap.size, 0, none⟩ = some (.int .i64 (x % 2147483648)) := cell_new' rfl _ _ _ rfl
  have k1 : (w.alloc (.cells #[.int .i64 (x % 2147483648), .int .i64 (x / 2147483648)] 3)).cell? ⟨w.heap.size, 1, none⟩ = some (.int .i64 (x / 2147483648)) := cell_new' rfl _ _ _ rfl
  go_enter Tryz.func148, Tryz.ntmps148
  go_wp2
  go_loopw [5, 12] (fun _ I W => ∃ (k : Nat) (s' t' : Int), I = .int .i64 k ∧ ((k = 0 ∧ s' = s ∧ t' = t) ∨ (k = 1 ∧ s' = (48271 * s + x % 2147483648 + 1) % 2147483647 ∧ t' = (69621 * t + x % 2147483648 + 1) % 2147483647) ∨ (k = 2 ∧ s' = (M.hab (s, t) x).1 ∧ t' = (M.hab (s, t) x).2)) ∧
    W.cell? ⟨b, 0, none⟩ = some (.int .i64 s') ∧ W.cell? ⟨b, 1, none⟩ = some (.int .i64 t') ∧ W.frozen? ⟨b, 0, none⟩ = false ∧ W.frozen? ⟨b, 1, none⟩ = false ∧
    W.cell? ⟨w.heap.size, 0, none⟩ = some (.int .i64 (x % 2147483648)) ∧ W.cell? ⟨w.heap.size, 1, none⟩ = some (.int .i64 (x / 2147483648)) ∧ Below b w W) (fun _ I _ => 2 - (intOf I).toNat)
  case atStart => exact ⟨0, s, t, rfl, .inl ⟨rfl, rfl, rfl⟩, e0, e1, g0, g1, k0, k1, hT0⟩
  case round =>
    clear e0 e1 g0 g1 k0 k1 c0 c1 f0 f1
    obtain ⟨k, s', t', rfl, hst, e0, e1, g0, g1, k0, k1, hB⟩ := hrel
    rcases hst with ⟨rfl, rfl, rfl⟩ | ⟨rfl, rfl, rfl⟩ | ⟨rfl, rfl, rfl⟩
    · go_wp2
      go_roundw
      case rel => exact ⟨1, _, _, rfl, .inr (.inl ⟨rfl, rfl, rfl⟩), (sc_other _ (by simp)).trans (set1b _ e0), set1b _ ((sc_other _ (by simp)).trans e1), frozen_set _ (frozen_set _ g0), frozen_set _ (frozen_set _ g1), cell_set _ (cell_set _ k0 hne) hne, cell_set _ (cell_set _ k1 hne) hne, (hB.setCell (Nat.le_refl _) _).setCell (Nat.le_refl _) _⟩
      case measure => simp [intOf]
    · have m1 : 0 ≤ (48271 * s + x % 2147483648 + 1) % 2147483647 := Int.emod_nonneg _ (by omega)
      have m2 : (48271 * s + x % 2147483648 + 1) % 2147483647 < 2147483647 := Int.emod_lt_of_pos _ (by omega)
      have m3 : 0 ≤ (69621 * t + x % 2147483648 + 1) % 2147483647 := Int.emod_nonneg _ (by omega)
      have m4 : (69621 * t + x % 2147483648 + 1) % 2147483647 < 2147483647 := Int.emod_lt_of_pos _ (by omega)
      go_wp2
      go_roundw
      case rel => exact ⟨2, _, _, rfl, .inr (.inr ⟨rfl, rfl, rfl⟩), (sc_other _ (by simp)).trans ((set1b _ e0).trans (by rw [HE.out])), (set1b _ ((sc_other _ (by simp)).trans e1)).trans (by rw [HE.out]), frozen_set _ (frozen_set _ g0), frozen_set _ (frozen_set _ g1), cell_set _ (cell_set _ k0 hne) hne, cell_set _ (cell_set _ k1 hne) hne, (hB.setCell (Nat.le_refl _) _).setCell (Nat.le_refl _) _⟩
      case measure => simp [intOf]
    · go_wp2
      go_end0
      exact ⟨rfl, ⟨e0, e1, g0, g1⟩, hB⟩
set_option maxHeartbeats 1600000 in
theorem hInts_any (A : Option Addr) (c : Nat) (xs : List Int) (hl : xs.length ≤ 400) (hd : ∀ x ∈ xs, 0 ≤ x ∧ x ≤ 4611686018427387903) (w : World) (hx : RI w w.heap.size A xs) :
    Calls Tryz.prog 144 #[.slice A xs.length c] w fun en w' => en = .returned (.int .i64 (M.hashL xs)) ∧ Below w.heap.size w w' := by
  obtain ⟨f, hf⟩ : ∃ f : Nat → Int × Int, f = fun k => M.hfold ((xs.length : Int) :: xs.take k) := ⟨_, rfl⟩
  have hf0 : f 0 = M.hab (1, 2) xs.length := by rw [hf]; rfl
  have hfs : ∀ k (h : k < xs.length), f (k + 1) = M.hab (f k) xs[k] := fun k h => by
    rw [hf]
    show M.hfold ((xs.length : Int) :: xs.take (k + 1)) = _
    rw [List.take_succ_eq_append_getElem h, ← List.cons_append, M.hfold_snoc]
  have hfe : (f xs.length).1 * 2147483648 + (f xs.length).2 = M.hashL xs := by
    rw [hf]; simp only [List.take_length]; rfl
  have hfl : ∀ k, (0 ≤ (f k).1 ∧ (f k).1 < 2147483647) ∧ (0 ≤ (f k).2 ∧ (f k).2 < 2147483647) := fun k => by rw [hf]; exact M.hfold_lt _
  have HF0 := Lib.hid hf0
  have HFS := Lib.hid hfs
  have HFE := Lib.hid hfe
  have HFL := Lib.hid hfl
  have HD := Lib.hid hd
  have HX := Lib.hid hx
  clear hf0 hfs hfe hfl hf hd hx
  have hT0 := below_new w (.cells #[.int .i64 1, .int .i64 2] 156)
  have e0 : (w.alloc (.cells #[.int .i64 1, .int .i64 2] 156)).cell? ⟨w.heap.size, 0, none⟩ = some (.int .i64 1) := cell_new' rfl _ _ _ rfl
  have e1 : (w.alloc (.cells #[.int .i64 1, .int .i64 2] 156)).cell? ⟨w.heap.size, 1, none⟩ = some (.int .i64 2) := cell_new' rfl _ _ _ rfl
  go_enter Tryz.func144, Tryz.ntmps144
  go_wp2_with fail
  refine (absorb_any w.heap.size 1 2 xs.length (by omega) (by omega) (by omega) _ e0 e1 (frozen_new' rfl _ _ _) (frozen_new' rfl _ _ _)).mono ?_
  clear e0 e1
  rintro e w1 ⟨rfl, hc1, hb1⟩
  have HC := Lib.hid hc1
  have hT1 : Below w.heap.size w w1 := hT0.trans hb1
  clear hc1 hT0
  go_wp2
  go_loopw [5, 14] (fun _ I W => ∃ k : Nat, k ≤ xs.length ∧ I = .int .i64 k ∧ (W.cell? ⟨w.heap.size, 0, none⟩ = some (.int .i64 (f k).1) ∧ W.cell? ⟨w.heap.size, 1, none⟩ = some (.int .i64 (f k).2) ∧ W.frozen? ⟨w.heap.size, 0, none⟩ = false ∧ W.frozen? ⟨w.heap.size, 1, none⟩ = false) ∧ Below w.heap.size w W) (fun _ I _ => xs.length - (intOf I).toNat)
  case atStart => exact ⟨0, by omega, rfl, by rw [HF0.out]; exact HC.out, hT1⟩
  case round =>
    obtain ⟨k, hk, rfl, ⟨e0, e1, g0, g1⟩, hB⟩ := hrel
    obtain ⟨l1, l2⟩ := HFL.out k
    by_cases hlt : k < xs.length
    · obtain ⟨ad, rfl, had, hc⟩ := (HX.out.next hB).at_ hlt
      have hk2 := HD.out xs[k] (List.getElem_mem hlt)
      have HS := Lib.hid (HFS.out k hlt)
      go_wp2_with fail
      refine (absorb_any w.heap.size (f k).1 (f k).2 xs[k] l1 l2 hk2 _ e0 e1 g0 g1).mono ?_
      clear e0 e1 g0 g1
      rintro e w2 ⟨rfl, hc2, hb2⟩
      have HC2 := Lib.hid hc2
      clear hc2
      go_wp2
      go_roundw
      case rel => exact ⟨k + 1, by omega, by go_num, by rw [HS.out]; exact HC2.out, hB.trans hb2⟩
      case measure => simp [intOf]; omega
    · obtain rfl : k = xs.length := by omega
      obtain ⟨⟨l3, l4⟩, l5, l6⟩ := HFL.out xs.length
      have HE := Lib.hid HFE.out
      clear hk hlt
      generalize f xs.length = st at *
      obtain ⟨s, t⟩ := st
      go_wp2
      go_quiet (fail)
      go_wp2
      go_ret
      exact ⟨ret_int HE.out, by first | exact bdrewN hB _ | exact hB.drew | exact hB⟩
theorem hLabelled_any (s : ByteArray) (hs : s.size ≤ 40) (A : Option Addr) (c : Nat) (xs : List Int) (hl : xs.length ≤ 359) (hd : ∀ x ∈ xs, 0 ≤ x ∧ x ≤ 4611686018427387903) (w : World) (hx : RI w w.heap.size A xs) :
    Calls Tryz.prog 138 #[.string s, .slice A xs.length c] w fun en w' => en = .returned (.int .i64 (M.hashL (M.lab s.data.toList xs))) ∧ Below w.heap.size w w' := by
  go_enter Tryz.func138, Tryz.ntmps138
  go_wp2_with fail
  refine (l3With_any s hs A c xs (by omega) _ hx).mono ?_
  rintro e w1 ⟨A1, c1, rfl, ho1, hb1⟩
  go_wp2_with fail
  refine (hInts_any A1 c1 (M.lab s.data.toList xs) (by rw [lab_len]; simp; omega) (lab_mem (by simpa using hs) hd) _ ho1.ri).mono ?_
  rintro e w2 ⟨rfl, hb2⟩
  go_wp2
  go_ret
  exact ⟨rfl, bnext hb1 hb2⟩
end Go.Proofs.YtgnnmifpfgpllaaGreat

/- Walks: challenges. -/
namespace Go.Proofs.YtgnnmifpfgpllaaGreat
open Go.RowKit
set_option maxRecDepth 100000 in
set_option maxHeartbeats 1600000 in
theorem hChallenge_any (p q g : Int) (hG : M.Grp p q g) (s : ByteArray) (hs : s.size ≤ 40) (A : Option Addr) (c : Nat) (xs : List Int) (h0 : 0 < xs.length) (hl : xs.length ≤ 356) (hd : ∀ x ∈ xs, 0 ≤ x ∧ x ≤ 4611686018427387903) (w : World) (hx : RI w w.heap.size A xs) :
    Calls Tryz.prog 113 #[.agg #[.int .i64 p, .int .i64 q, .int .i64 g], .string s, .slice A xs.length c] w fun en w' => en = .returned (.int .i64 (M.chal p q g s.data.toList xs)) ∧ Below w.heap.size w w' := by
  have hq2 := hG.q2
  have hqp := hG.qp
  have hpM := hG.pM
  have hp3 := hG.p3
  obtain ⟨zs, hzs⟩ : ∃ zs : List Int, zs = p :: q :: g :: xs := ⟨_, rfl⟩
  have hzl : zs.length = 3 + xs.length := by rw [hzs]; simp; omega
  have HZ := Lib.hid hzs
  have HZL := Lib.hid hzl
  have hgg : 0 ≤ g ∧ g < p := ⟨by have := hG.g2; omega, hG.gp⟩
  have hzd : ∀ x ∈ zs, 0 ≤ x ∧ x ≤ 4611686018427387903 := by
    intro x h
    rw [hzs] at h
    simp only [List.mem_cons] at h
    rcases h with rfl | rfl | rfl | h
    · omega
    · omega
    · omega
    · exact hd x h
  have HD := Lib.hid hzd
  have hlb := M.hashL_lt (M.lab s.data.toList zs)
  obtain ⟨hlb1, hlb2⟩ := hlb
  have HE := Lib.hid (show M.hashL (M.lab s.data.toList zs) % q = M.chal p q g s.data.toList xs by rw [hzs]; rfl)
  have hqz : ¬ q = 0 := by omega
  have hqm : (M.hashL (M.lab s.data.toList zs)).tmod q = M.hashL (M.lab s.data.toList zs) % q := Int.tmod_eq_emod_of_nonneg hlb1
  clear hzs hzl hd hzd hG hgg
  go_enter Tryz.func113, Tryz.ntmps113
  go_wp2_with fail
  refine wp_region_chain (fun W => W.cell? ⟨w.heap.size, 0, none⟩ = some (.int .i64 p) ∧ W.cell? ⟨w.heap.size, 1, none⟩ = some (.int .i64 q) ∧ W.cell? ⟨w.heap.size, 2, none⟩ = some (.int .i64 g) ∧ RI W W.heap.size A xs)
    15 [some 7, some 8, some 9, some 10, some 11, some 12, some 13, some 14, some 15, some 16, some 17, some 18, some 19, some 20, some 6] (by kernel_rfl) (by kernel_rfl) (by kernel_rfl) (by decide) (by rfl) (by kernel_rfl) (by kernel_rfl) ?hS0 ?hSs ?hc
  case hS0 => exact ⟨cell_new' rfl _ _ _ rfl, cell_new' rfl _ _ _ rfl, cell_new' rfl _ _ _ rfl, hx.next (Below.drew (below_new w _))⟩
  case hSs => exact fun w1 w2 h hb => ⟨cell_keep hb h.1, cell_keep hb h.2.1, cell_keep hb h.2.2.1, h.2.2.2.next hb⟩
  apply Chain.det
  · intro a w1 hS hb hd K hK
    have b1 := hb 1 _ rfl (by decide)
    clear hb
    simp only [depsOK] at hd
    go_simp
    exact hK _ _ rfl (Below.refl _ _)
  show Chain _ _ _ _ _ _ _ _ _ _ _ 14 1 _
  apply Chain.det
  · intro a w1 hS hb hd K hK
    have b3 := hb 3 _ rfl (by decide)
    clear hb
    simp only [depsOK] at hd
    go_simp
    exact hK _ _ rfl (Below.refl _ _)
  show Chain _ _ _ _ _ _ _ _ _ _ _ 13 2 _
  apply Chain.det
  · intro a w1 hS hb hd K hK
    clear hb
    simp only [depsOK, updR, Region.binds, reduceIte, forall_const, and_true, eqV, List.getElem?_cons_zero, List.getElem?_cons_succ, exists_eq_right, Nat.succ_ne_self] at hd
    go_simp
    exact hK _ _ rfl (Below.refl _ _)
  show Chain _ _ _ _ _ _ _ _ _ _ _ 12 3 _
  apply Chain.det
  · intro a w1 hS hb hd K hK
    have b3 := hb 3 _ rfl (by decide)
    clear hb
    simp only [depsOK] at hd
    go_simp
    exact hK _ _ rfl (Below.refl _ _)
  show Chain _ _ _ _ _ _ _ _ _ _ _ 11 4 _
  apply Chain.det
  · intro a w1 hS hb hd K hK
    clear hb
    simp only [depsOK, updR, Region.binds, reduceIte, Nat.reduceEqDiff, forall_const, and_true, eqV, List.getElem?_cons_zero, List.getElem?_cons_succ, exists_eq_right, reduceCtorEq, Nat.succ_ne_self] at hd
    go_simp
    exact hK _ _ rfl (Below.refl _ _)
  show Chain _ _ _ _ _ _ _ _ _ _ _ 10 5 _
  apply Chain.det
  · intro a w1 hS hb hd K hK
    have b3 := hb 3 _ rfl (by decide)
    clear hb
    simp only [depsOK] at hd
    go_simp
    exact hK _ _ rfl (Below.refl _ _)
  show Chain _ _ _ _ _ _ _ _ _ _ _ 9 6 _
  apply Chain.det
  · intro a w1 hS hb hd K hK
    clear hb
    simp only [depsOK, updR, Region.binds, reduceIte, Nat.reduceEqDiff, forall_const, and_true, eqV, List.getElem?_cons_zero, List.getElem?_cons_succ, exists_eq_right, reduceCtorEq, Nat.succ_ne_self] at hd
    go_simp
    exact hK _ _ rfl (Below.refl _ _)
  show Chain _ _ _ _ _ _ _ _ _ _ _ 8 7 _
  refine Chain.rel (fun v W => ∃ A, v = .slice A 3 3 ∧ RI W W.heap.size A [p, q, g]) (fun v w1 w2 ⟨A, h1, h2⟩ hb => ⟨A, h1, h2.next hb⟩) ?_ ?_
  · intro a w1 hS hb hd K hK
    clear hb
    simp only [depsOK, updR, Region.binds, reduceIte, Nat.reduceEqDiff, forall_const, and_true, eqV, List.getElem?_cons_zero, List.getElem?_cons_succ, exists_eq_right, reduceCtorEq, Nat.succ_ne_self] at hd
    go_simp
    exact hK _ _ ⟨_, rfl, RI.lit w1 [p, q, g] _ rfl⟩ (below_new _ _)
  show Chain _ _ _ _ _ _ _ _ _ _ _ 7 8 _
  apply Chain.det
  · intro a w1 hS hb hd K hK
    have b2 := hb 2 _ rfl (by decide)
    clear hb
    simp only [depsOK] at hd
    go_simp
    exact hK _ _ rfl (Below.refl _ _)
  show Chain _ _ _ _ _ _ _ _ _ _ _ 6 9 _
  refine Chain.rel (fun v W => ∃ A c, v = .slice A zs.length c ∧ RI W W.heap.size A zs) (fun v w1 w2 ⟨A, c, h1, h2⟩ hb => ⟨A, c, h1, h2.next hb⟩) ?_ ?_
  · intro a w1 hS hb hd K hK
    clear hb
    simp only [depsOK, updR, Region.binds, reduceIte, Nat.reduceEqDiff, forall_const, and_true, eqV, List.getElem?_cons_zero, List.getElem?_cons_succ, exists_eq_right, reduceCtorEq, Nat.succ_ne_self] at hd
    obtain ⟨⟨v1, e1, A1, rfl, r1⟩, e2⟩ := hd
    refine if_app rfl _ _ rfl A1 3 3 [p, q, g] (by go_simp) rfl rfl (by omega) _ r1 _ A xs.length c xs zs (by go_simp) rfl h0 hS.2.2.2 HZ.out (by rw [HZL.out]; omega) ?_
    intro A2 c2 w2 ho2 hb2
    exact hK _ _ ⟨A2, c2, rfl, ho2.ri⟩ hb2
  show Chain _ _ _ _ _ _ _ _ _ _ _ 5 10 _
  apply Chain.det
  · intro a w1 hS hb hd K hK
    clear hb
    simp only [depsOK, updR, Region.binds, reduceIte, Nat.reduceEqDiff, forall_const, and_true, eqV, List.getElem?_cons_zero, List.getElem?_cons_succ, exists_eq_right, reduceCtorEq, Nat.succ_ne_self] at hd
    obtain ⟨e1, ⟨v2, e2, A2, c2, rfl, r2⟩, _⟩ := hd
    go_simp
    refine (hLabelled_any s hs A2 c2 zs (by rw [HZL.out]; omega) HD.out _ r2).mono ?_
    rintro e9 w9 ⟨rfl, hb9⟩
    exact hK _ _ rfl hb9
  show Chain _ _ _ _ _ _ _ _ _ _ _ 4 11 _
  apply Chain.det
  · intro a w1 hS hb hd K hK
    have b3 := hb 3 _ rfl (by decide)
    clear hb
    simp only [depsOK] at hd
    go_simp
    exact hK _ _ rfl (Below.refl _ _)
  show Chain _ _ _ _ _ _ _ _ _ _ _ 3 12 _
  apply Chain.det
  · intro a w1 hS hb hd K hK
    clear hb
    simp only [depsOK, updR, Region.binds, reduceIte, Nat.reduceEqDiff, forall_const, and_true, eqV, List.getElem?_cons_zero, List.getElem?_cons_succ, exists_eq_right, reduceCtorEq, Nat.succ_ne_self] at hd
    go_simp
    exact hK _ _ rfl (Below.refl _ _)
  show Chain _ _ _ _ _ _ _ _ _ _ _ 2 13 _
  apply Chain.det
  · intro a w1 hS hb hd K hK
    clear hb
    simp only [depsOK, updR, Region.binds, reduceIte, Nat.reduceEqDiff, forall_const, and_true, eqV, List.getElem?_cons_zero, List.getElem?_cons_succ, exists_eq_right, reduceCtorEq, Nat.succ_ne_self] at hd
    go_simp
    exact hK _ _ rfl (Below.refl _ _)
  show Chain _ _ _ _ _ _ _ _ _ _ _ 1 14 _
  apply Chain.det
  · intro a w1 hS hb hd K hK
    clear hb
    simp only [depsOK, updR, Region.binds, reduceIte, Nat.reduceEqDiff, forall_const, and_true, eqV, List.getElem?_cons_zero, List.getElem?_cons_succ, exists_eq_right, reduceCtorEq, Nat.succ_ne_self] at hd
    go_simp
    exact hK _ _ rfl (Below.refl _ _)
  show Chain _ _ _ _ _ _ _ _ _ _ _ 0 15 _
  intro x w1 hS hB hR y hY hA hE
  have r14 := hR 14 _ rfl
  simp only [updR, reduceIte, Nat.reduceEqDiff, eqV] at r14
  clear hR hY hA hE
  simp only [TailWp, fillB, Act.put, List.setIfInBounds_toArray, List.set_cons_zero, List.set_cons_succ, Nat.reduceAdd, r14]
  clear r14
  go_wp2
  go_ret
  exact ⟨ret_int HE.out, bnext (Below.drew (below_new w _)) hB⟩
set_option maxHeartbeats 1600000 in
theorem challenge_any (p q g : Int) (hG : M.Grp p q g) (s : ByteArray) (hs : s.size ≤ 40) (A : Option Addr) (c : Nat) (xs : List Int) (h0 : 0 < xs.length) (hl : xs.length ≤ 356) (hd : ∀ x ∈ xs, 0 ≤ x ∧ x ≤ 4611686018427387903) (w : World) (hx : RI w w.heap.size A xs) :
    Calls Tryz.prog 85 #[.agg #[.int .i64 p, .int .i64 q, .int .i64 g], .string s, .slice A xs.length c] w fun en w' => en = .returned (.tuple #[.int .i64 (M.chal p q g s.data.toList xs), .bool true]) ∧ Below w.heap.size w w' := by
  have hq2 := hG.q2
  have hqp := hG.qp
  have hpM := hG.pM
  have hp3 := hG.p3
  obtain ⟨zs, hzs⟩ : ∃ zs : List Int, zs = p :: q :: g :: xs := ⟨_, rfl⟩
  have hzl : zs.length = 3 + xs.length := by rw [hzs]; simp; omega
  have HZ := Lib.hid hzs
  have HZL := Lib.hid hzl
  have hgg : 0 ≤ g ∧ g < p := ⟨by have := hG.g2; omega, hG.gp⟩
  have hzd : ∀ x ∈ zs, 0 ≤ x ∧ x ≤ 4611686018427387903 := by
    intro x h
    rw [hzs] at h
    simp only [List.mem_cons] at h
    rcases h with rfl | rfl | rfl | h
    · omega
    · omega
    · omega
    · exact hd x h
  have HD := Lib.hid hzd
  have hlb := M.hashL_lt (M.lab s.data.toList zs)
  obtain ⟨hlb1, hlb2⟩ := hlb
  have HE := Lib.hid (show M.hashL (M.lab s.data.toList zs) % q = M.chal p q g s.data.toList xs by rw [hzs]; rfl)
  have hqz : ¬ q = 0 := by omega
  have hqm : (M.hashL (M.lab s.data.toList zs)).tmod q = M.hashL (M.lab s.data.toList zs) % q := Int.tmod_eq_emod_of_nonneg hlb1
  clear hzs hzl hd hzd hG hgg
  have hown := OI.lit (w := w.alloc (.cells #[.int .i64 p, .int .i64 q, .int .i64 g] 31)) (n := w.heap.size + 1) (by simp) [p, q, g] (by simp)
  have HO := Lib.hid hown
  have hrd : RI ((w.alloc (.cells #[.int .i64 p, .int .i64 q, .int .i64 g] 31)).alloc (.cells #[.int .i64 p, .int .i64 q, .int .i64 g] 3)) w.heap.size A xs := hx.below (bnew (below_new w _) _)
  have HX := Lib.hid hrd
  clear hx hrd hown
  go_enter Tryz.func85, Tryz.ntmps85
  go_wp2_with (at_builtin; refine wpList_app (by go_simp) _ _ rfl (w.alloc (.cells #[.int .i64 p, .int .i64 q, .int .i64 g] 31)).heap.size _ [p, q, g] rfl HO.out w.heap.size A xs.length c xs zs rfl rfl HX.out HZ.out (by rw [HZL.out]; omega) (by simp) ?_; intro A1 c1 w1 ho hg hat)
  have hB1 : Below (w.alloc (.cells #[.int .i64 p, .int .i64 q, .int .i64 g] 31)).heap.size (w.alloc (.cells #[.int .i64 p, .int .i64 q, .int .i64 g] 31)) w1 := (below_new _ _).grown hg (by simp) HO.out.ge
  have k1 : w1.cell? ⟨w.heap.size, 1, none⟩ = some (.int .i64 q) := cell_keep hB1 (cell_new' rfl _ _ _ rfl)
  refine (hashLabelled_any s hs A1 c1 zs (by rw [HZL.out]; omega) HD.out _ ho.ri).mono ?_
  rintro e2 w2 ⟨rfl, hb2⟩
  have k2 := cell_keep hb2 k1
  clear k1
  go_wp2
  go_ret2
  exact ⟨ret_ib HE.out rfl, bnext (bnext (below_new _ _) hB1) hb2⟩
end Go.Proofs.YtgnnmifpfgpllaaGreat
