import Derived.Test.YtlggpehioflbdaaZAD
import Derived.Test.YtlggpehioflbdaaChecked
/- What is known of the types. -/
set_option linter.all false
set_option linter.unusedVariables false
set_option linter.unusedSimpArgs false
namespace Go.Proofs.Ytlggpehioflbdaa
open Go.RowKit
def zeroOf (P : Program) (t : TypeId) : TypeInfo × Value := match P.info? t with
  | some i => (i, i.zero.getD undef)
  | none => (default, undef)
def AllOk (P : Program) : List (Nat × TI) → Prop
  | [] => True
  | (t, ti) :: l => ti.ok P t ∧ AllOk P l
theorem AllOk.get {P : Program} : ∀ {l : List (Nat × TI)}, AllOk P l → ∀ t ti, look l t = some ti → ti.ok P t
  | [], _, t, ti, h => by cases h
  | (k, x) :: l, hl, t, ti, h => by
    simp only [look] at h
    split at h
    · rename_i e; subst e; cases h; exact hl.1
    · exact AllOk.get hl.2 t ti h
theorem ok_int : TI.ok Try.prog 3 ⟨false, [.int .i64 0], [], none, (some .i64), false⟩ :=
  { info := ⟨_, .int .i64 0, (by kernel_rfl : Try.prog.info? 3 = some (zeroOf Try.prog 3).1), (by kernel_rfl), rfl, (by kernel_rfl)⟩
    und := ⟨_, Try.underlying3⟩
    isAgg := fun w => by simp [isAgg, run_underlying Try.underlying3]
    flds := fun h => absurd rfl h
    bld := fun h => by simp at h
    el := fun e y b h => by cases h
    str := fun h => by first | exact Try.underlying3 | cases h
    bl := fun h => by first | exact Try.underlying3 | (simp [TI.bl] at h; done)
    ik := fun k h => by first | (cases h; exact ⟨by simp, Try.underlying3⟩) | cases h }
theorem ok_bool : TI.ok Try.prog 4 ⟨false, [.bool false], [], none, none, false⟩ :=
  { info := ⟨_, .bool false, (by kernel_rfl : Try.prog.info? 4 = some (zeroOf Try.prog 4).1), (by kernel_rfl), rfl, (by kernel_rfl)⟩
    und := ⟨_, Try.underlying4⟩
    isAgg := fun w => by simp [isAgg, run_underlying Try.underlying4]
    flds := fun h => absurd rfl h
    bld := fun h => by simp at h
    el := fun e y b h => by cases h
    str := fun h => by first | exact Try.underlying4 | cases h
    bl := fun h => by first | exact Try.underlying4 | (simp [TI.bl] at h; done)
    ik := fun k h => by first | (cases h; exact ⟨by simp, Try.underlying4⟩) | cases h }
theorem ok_string : TI.ok Try.prog 9 ⟨false, [.string ByteArray.empty], [], none, none, true⟩ :=
  { info := ⟨_, .string ByteArray.empty, (by kernel_rfl : Try.prog.info? 9 = some (zeroOf Try.prog 9).1), (by kernel_rfl), rfl, (by kernel_rfl)⟩
    und := ⟨_, Try.underlying9⟩
    isAgg := fun w => by simp [isAgg, run_underlying Try.underlying9]
    flds := fun h => absurd rfl h
    bld := fun h => by simp at h
    el := fun e y b h => by cases h
    str := fun h => by first | exact Try.underlying9 | cases h
    bl := fun h => by first | exact Try.underlying9 | (simp [TI.bl] at h; done)
    ik := fun k h => by first | (cases h; exact ⟨by simp, Try.underlying9⟩) | cases h }
theorem ok_uint : TI.ok Try.prog 206 ⟨false, [.int .u64 0], [], none, (some .u64), false⟩ :=
  { info := ⟨_, .int .u64 0, (by kernel_rfl : Try.prog.info? 206 = some (zeroOf Try.prog 206).1), (by kernel_rfl), rfl, (by kernel_rfl)⟩
    und := ⟨_, Try.underlying206⟩
    isAgg := fun w => by simp [isAgg, run_underlying Try.underlying206]
    flds := fun h => absurd rfl h
    bld := fun h => by simp at h
    el := fun e y b h => by cases h
    str := fun h => by first | exact Try.underlying206 | cases h
    bl := fun h => by first | exact Try.underlying206 | (simp [TI.bl] at h; done)
    ik := fun k h => by first | (cases h; exact ⟨by simp, Try.underlying206⟩) | cases h }
theorem ok_Sint : TI.ok Try.prog 38 ⟨false, [.slice none 0 0], [], some (3, .int, 8), none, false⟩ :=
  { info := ⟨_, .slice none 0 0, (by kernel_rfl : Try.prog.info? 38 = some (zeroOf Try.prog 38).1), (by kernel_rfl), rfl, (by kernel_rfl)⟩
    und := ⟨_, Try.underlying38⟩
    isAgg := fun w => by simp [isAgg, run_underlying Try.underlying38]
    flds := fun h => absurd rfl h
    bld := fun h => by simp at h
    el := fun e y b h => by
      simp only [Option.some.injEq, Prod.mk.injEq] at h
      obtain ⟨rfl, rfl, rfl⟩ := h
      exact ⟨Try.underlying38, _, (zeroOf Try.prog 3).2, (by kernel_rfl : Try.prog.info? 3 = some (zeroOf Try.prog 3).1), (by kernel_rfl), (by kernel_rfl), (by kernel_rfl), (by kernel_rfl), (by decide), fun W lo => by
        rw [show (zeroOf Try.prog 3).2.cells.toList = [.int .i64 0] from by kernel_rfl]
        exact ⟨rfl, rfl⟩⟩
    str := fun h => by cases h
    bl := fun h => by simp [TI.bl] at h
    ik := fun k h => by cases h }
theorem ok_SSint : TI.ok Try.prog 26 ⟨false, [.slice none 0 0], [], some (38, (.list .int), 24), none, false⟩ :=
  { info := ⟨_, .slice none 0 0, (by kernel_rfl : Try.prog.info? 26 = some (zeroOf Try.prog 26).1), (by kernel_rfl), rfl, (by kernel_rfl)⟩
    und := ⟨_, Try.underlying26⟩
    isAgg := fun w => by simp [isAgg, run_underlying Try.underlying26]
    flds := fun h => absurd rfl h
    bld := fun h => by simp at h
    el := fun e y b h => by
      simp only [Option.some.injEq, Prod.mk.injEq] at h
      obtain ⟨rfl, rfl, rfl⟩ := h
      exact ⟨Try.underlying26, _, (zeroOf Try.prog 38).2, (by kernel_rfl : Try.prog.info? 38 = some (zeroOf Try.prog 38).1), (by kernel_rfl), (by kernel_rfl), (by kernel_rfl), (by kernel_rfl), (by decide), fun W lo => by
        rw [show (zeroOf Try.prog 38).2.cells.toList = [.slice none 0 0] from by kernel_rfl]
        exact ⟨_, 0, rfl, [], [], rfl, rfl, fun k x u b h => by simp [Ty.dflt] at h, World.ownsRow_nil W lo 0 _, rfl⟩⟩
    str := fun h => by cases h
    bl := fun h => by simp [TI.bl] at h
    ik := fun k h => by cases h }
theorem ok_Sbool : TI.ok Try.prog 127 ⟨false, [.slice none 0 0], [], some (4, .bool, 1), none, false⟩ :=
  { info := ⟨_, .slice none 0 0, (by kernel_rfl : Try.prog.info? 127 = some (zeroOf Try.prog 127).1), (by kernel_rfl), rfl, (by kernel_rfl)⟩
    und := ⟨_, Try.underlying127⟩
    isAgg := fun w => by simp [isAgg, run_underlying Try.underlying127]
    flds := fun h => absurd rfl h
    bld := fun h => by simp at h
    el := fun e y b h => by
      simp only [Option.some.injEq, Prod.mk.injEq] at h
      obtain ⟨rfl, rfl, rfl⟩ := h
      exact ⟨Try.underlying127, _, (zeroOf Try.prog 4).2, (by kernel_rfl : Try.prog.info? 4 = some (zeroOf Try.prog 4).1), (by kernel_rfl), (by kernel_rfl), (by kernel_rfl), (by kernel_rfl), (by decide), fun W lo => by
        rw [show (zeroOf Try.prog 4).2.cells.toList = [.bool false] from by kernel_rfl]
        exact ⟨rfl, rfl⟩⟩
    str := fun h => by cases h
    bl := fun h => by simp [TI.bl] at h
    ik := fun k h => by cases h }
theorem ok_implGroup : TI.ok Try.prog 29 ⟨true, [.int .i64 0, .int .i64 0, .int .i64 0], [(0, 1, false), (1, 1, false), (2, 1, false)], none, none, false⟩ :=
  { info := ⟨_, .agg #[.int .i64 0, .int .i64 0, .int .i64 0], (by kernel_rfl : Try.prog.info? 29 = some (zeroOf Try.prog 29).1), (by kernel_rfl), rfl, (by kernel_rfl)⟩
    und := ⟨_, Try.underlying29⟩
    isAgg := fun w => by simp [isAgg, run_underlying Try.underlying29]
    flds := fun _ => ⟨_, Try.underlying29, (by kernel_rfl), fun k f g hf hg => by
      rcases k with _ | _ | _ | _
      · simp at hf hg; subst hf hg; exact ⟨by decide, fun w => by simp [isAgg, run_underlying Try.underlying3]⟩
      · simp at hf hg; subst hf hg; exact ⟨by decide, fun w => by simp [isAgg, run_underlying Try.underlying3]⟩
      · simp at hf hg; subst hf hg; exact ⟨by decide, fun w => by simp [isAgg, run_underlying Try.underlying3]⟩
      · simp at hf⟩
    bld := fun _ ps cells w h => by
      have e : (fun (i : Nat) => ([(0, 1), (1, 1), (2, 1)] : List (Nat × Nat))[i]?) = (fun (i : Nat) => (([(0, 1, false), (1, 1, false), (2, 1, false)] : List (Nat × Nat × Bool))[i]?).map fun (g : Nat × Nat × Bool) => (g.1, g.2.1)) := by
        funext i
        rcases i with _ | _ | _ | _ <;> simp
      have hi := (by kernel_rfl : Try.prog.info? 29 = some (zeroOf Try.prog 29).1)
      have hz := (by kernel_rfl : (zeroOf Try.prog 29).1.zero = some (.agg #[.int .i64 0, .int .i64 0, .int .i64 0]))
      have h0 := (by kernel_rfl : Try.prog.info? 3 = some (zeroOf Try.prog 3).1)
      have s0 := (by kernel_rfl : (zeroOf Try.prog 3).1.size = 1)
      have h' : Instr.fill (fun (i : Nat) => ([(0, 1), (1, 1), (2, 1)] : List (Nat × Nat))[i]?) #[.int .i64 0, .int .i64 0, .int .i64 0] ps = some cells := by rw [e]; exact h
      simp [Instr.build, zeroValue, typeInfo, hi, hz, run_underlying Try.underlying29, sizeOf, Value.cells, h0, s0]
      rw [h']
      rfl
    el := fun e y b h => by cases h
    str := fun h => by cases h
    bl := fun h => by simp [TI.bl] at h
    ik := fun k h => by cases h }
theorem ok_implProof : TI.ok Try.prog 67 ⟨true, [.slice none 0 0, .slice none 0 0, .slice none 0 0], [(0, 1, false), (1, 1, false), (2, 1, false)], none, none, false⟩ :=
  { info := ⟨_, .agg #[.slice none 0 0, .slice none 0 0, .slice none 0 0], (by kernel_rfl : Try.prog.info? 67 = some (zeroOf Try.prog 67).1), (by kernel_rfl), rfl, (by kernel_rfl)⟩
    und := ⟨_, Try.underlying67⟩
    isAgg := fun w => by simp [isAgg, run_underlying Try.underlying67]
    flds := fun _ => ⟨_, Try.underlying67, (by kernel_rfl), fun k f g hf hg => by
      rcases k with _ | _ | _ | _
      · simp at hf hg; subst hf hg; exact ⟨by decide, fun w => by simp [isAgg, run_underlying Try.underlying38]⟩
      · simp at hf hg; subst hf hg; exact ⟨by decide, fun w => by simp [isAgg, run_underlying Try.underlying38]⟩
      · simp at hf hg; subst hf hg; exact ⟨by decide, fun w => by simp [isAgg, run_underlying Try.underlying38]⟩
      · simp at hf⟩
    bld := fun _ ps cells w h => by
      have e : (fun (i : Nat) => ([(0, 1), (1, 1), (2, 1)] : List (Nat × Nat))[i]?) = (fun (i : Nat) => (([(0, 1, false), (1, 1, false), (2, 1, false)] : List (Nat × Nat × Bool))[i]?).map fun (g : Nat × Nat × Bool) => (g.1, g.2.1)) := by
        funext i
        rcases i with _ | _ | _ | _ <;> simp
      have hi := (by kernel_rfl : Try.prog.info? 67 = some (zeroOf Try.prog 67).1)
      have hz := (by kernel_rfl : (zeroOf Try.prog 67).1.zero = some (.agg #[.slice none 0 0, .slice none 0 0, .slice none 0 0]))
      have h0 := (by kernel_rfl : Try.prog.info? 38 = some (zeroOf Try.prog 38).1)
      have s0 := (by kernel_rfl : (zeroOf Try.prog 38).1.size = 1)
      have h' : Instr.fill (fun (i : Nat) => ([(0, 1), (1, 1), (2, 1)] : List (Nat × Nat))[i]?) #[.slice none 0 0, .slice none 0 0, .slice none 0 0] ps = some cells := by rw [e]; exact h
      simp [Instr.build, zeroValue, typeInfo, hi, hz, run_underlying Try.underlying67, sizeOf, Value.cells, h0, s0]
      rw [h']
      rfl
    el := fun e y b h => by cases h
    str := fun h => by cases h
    bl := fun h => by simp [TI.bl] at h
    ik := fun k h => by cases h }
theorem ok_implEqualLog : TI.ok Try.prog 181 ⟨true, [.int .i64 0, .int .i64 0, .int .i64 0, .int .i64 0], [(0, 1, false), (1, 1, false), (2, 1, false), (3, 1, false)], none, none, false⟩ :=
  { info := ⟨_, .agg #[.int .i64 0, .int .i64 0, .int .i64 0, .int .i64 0], (by kernel_rfl : Try.prog.info? 181 = some (zeroOf Try.prog 181).1), (by kernel_rfl), rfl, (by kernel_rfl)⟩
    und := ⟨_, Try.underlying181⟩
    isAgg := fun w => by simp [isAgg, run_underlying Try.underlying181]
    flds := fun _ => ⟨_, Try.underlying181, (by kernel_rfl), fun k f g hf hg => by
      rcases k with _ | _ | _ | _ | _
      · simp at hf hg; subst hf hg; exact ⟨by decide, fun w => by simp [isAgg, run_underlying Try.underlying3]⟩
      · simp at hf hg; subst hf hg; exact ⟨by decide, fun w => by simp [isAgg, run_underlying Try.underlying3]⟩
      · simp at hf hg; subst hf hg; exact ⟨by decide, fun w => by simp [isAgg, run_underlying Try.underlying3]⟩
      · simp at hf hg; subst hf hg; exact ⟨by decide, fun w => by simp [isAgg, run_underlying Try.underlying3]⟩
      · simp at hf⟩
    bld := fun _ ps cells w h => by
      have e : (fun (i : Nat) => ([(0, 1), (1, 1), (2, 1), (3, 1)] : List (Nat × Nat))[i]?) = (fun (i : Nat) => (([(0, 1, false), (1, 1, false), (2, 1, false), (3, 1, false)] : List (Nat × Nat × Bool))[i]?).map fun (g : Nat × Nat × Bool) => (g.1, g.2.1)) := by
        funext i
        rcases i with _ | _ | _ | _ | _ <;> simp
      have hi := (by kernel_rfl : Try.prog.info? 181 = some (zeroOf Try.prog 181).1)
      have hz := (by kernel_rfl : (zeroOf Try.prog 181).1.zero = some (.agg #[.int .i64 0, .int .i64 0, .int .i64 0, .int .i64 0]))
      have h0 := (by kernel_rfl : Try.prog.info? 3 = some (zeroOf Try.prog 3).1)
      have s0 := (by kernel_rfl : (zeroOf Try.prog 3).1.size = 1)
      have h' : Instr.fill (fun (i : Nat) => ([(0, 1), (1, 1), (2, 1), (3, 1)] : List (Nat × Nat))[i]?) #[.int .i64 0, .int .i64 0, .int .i64 0, .int .i64 0] ps = some cells := by rw [e]; exact h
      simp [Instr.build, zeroValue, typeInfo, hi, hz, run_underlying Try.underlying181, sizeOf, Value.cells, h0, s0]
      rw [h']
      rfl
    el := fun e y b h => by cases h
    str := fun h => by cases h
    bl := fun h => by simp [TI.bl] at h
    ik := fun k h => by cases h }
theorem ok_implDealing : TI.ok Try.prog 81 ⟨true, [.slice none 0 0, .slice none 0 0], [(0, 1, false), (1, 1, false)], none, none, false⟩ :=
  { info := ⟨_, .agg #[.slice none 0 0, .slice none 0 0], (by kernel_rfl : Try.prog.info? 81 = some (zeroOf Try.prog 81).1), (by kernel_rfl), rfl, (by kernel_rfl)⟩
    und := ⟨_, Try.underlying81⟩
    isAgg := fun w => by simp [isAgg, run_underlying Try.underlying81]
    flds := fun _ => ⟨_, Try.underlying81, (by kernel_rfl), fun k f g hf hg => by
      rcases k with _ | _ | _
      · simp at hf hg; subst hf hg; exact ⟨by decide, fun w => by simp [isAgg, run_underlying Try.underlying38]⟩
      · simp at hf hg; subst hf hg; exact ⟨by decide, fun w => by simp [isAgg, run_underlying Try.underlying38]⟩
      · simp at hf⟩
    bld := fun _ ps cells w h => by
      have e : (fun (i : Nat) => ([(0, 1), (1, 1)] : List (Nat × Nat))[i]?) = (fun (i : Nat) => (([(0, 1, false), (1, 1, false)] : List (Nat × Nat × Bool))[i]?).map fun (g : Nat × Nat × Bool) => (g.1, g.2.1)) := by
        funext i
        rcases i with _ | _ | _ <;> simp
      have hi := (by kernel_rfl : Try.prog.info? 81 = some (zeroOf Try.prog 81).1)
      have hz := (by kernel_rfl : (zeroOf Try.prog 81).1.zero = some (.agg #[.slice none 0 0, .slice none 0 0]))
      have h0 := (by kernel_rfl : Try.prog.info? 38 = some (zeroOf Try.prog 38).1)
      have s0 := (by kernel_rfl : (zeroOf Try.prog 38).1.size = 1)
      have h' : Instr.fill (fun (i : Nat) => ([(0, 1), (1, 1)] : List (Nat × Nat))[i]?) #[.slice none 0 0, .slice none 0 0] ps = some cells := by rw [e]; exact h
      simp [Instr.build, zeroValue, typeInfo, hi, hz, run_underlying Try.underlying81, sizeOf, Value.cells, h0, s0]
      rw [h']
      rfl
    el := fun e y b h => by cases h
    str := fun h => by cases h
    bl := fun h => by simp [TI.bl] at h
    ik := fun k h => by cases h }
theorem ok_implKeyGen : TI.ok Try.prog 55 ⟨true, [.slice none 0 0, .int .i64 0, .slice none 0 0, .slice none 0 0], [(0, 1, false), (1, 1, false), (2, 1, false), (3, 1, false)], none, none, false⟩ :=
  { info := ⟨_, .agg #[.slice none 0 0, .int .i64 0, .slice none 0 0, .slice none 0 0], (by kernel_rfl : Try.prog.info? 55 = some (zeroOf Try.prog 55).1), (by kernel_rfl), rfl, (by kernel_rfl)⟩
    und := ⟨_, Try.underlying55⟩
    isAgg := fun w => by simp [isAgg, run_underlying Try.underlying55]
    flds := fun _ => ⟨_, Try.underlying55, (by kernel_rfl), fun k f g hf hg => by
      rcases k with _ | _ | _ | _ | _
      · simp at hf hg; subst hf hg; exact ⟨by decide, fun w => by simp [isAgg, run_underlying Try.underlying38]⟩
      · simp at hf hg; subst hf hg; exact ⟨by decide, fun w => by simp [isAgg, run_underlying Try.underlying3]⟩
      · simp at hf hg; subst hf hg; exact ⟨by decide, fun w => by simp [isAgg, run_underlying Try.underlying38]⟩
      · simp at hf hg; subst hf hg; exact ⟨by decide, fun w => by simp [isAgg, run_underlying Try.underlying38]⟩
      · simp at hf⟩
    bld := fun _ ps cells w h => by
      have e : (fun (i : Nat) => ([(0, 1), (1, 1), (2, 1), (3, 1)] : List (Nat × Nat))[i]?) = (fun (i : Nat) => (([(0, 1, false), (1, 1, false), (2, 1, false), (3, 1, false)] : List (Nat × Nat × Bool))[i]?).map fun (g : Nat × Nat × Bool) => (g.1, g.2.1)) := by
        funext i
        rcases i with _ | _ | _ | _ | _ <;> simp
      have hi := (by kernel_rfl : Try.prog.info? 55 = some (zeroOf Try.prog 55).1)
      have hz := (by kernel_rfl : (zeroOf Try.prog 55).1.zero = some (.agg #[.slice none 0 0, .int .i64 0, .slice none 0 0, .slice none 0 0]))
      have h0 := (by kernel_rfl : Try.prog.info? 38 = some (zeroOf Try.prog 38).1)
      have s0 := (by kernel_rfl : (zeroOf Try.prog 38).1.size = 1)
      have h1 := (by kernel_rfl : Try.prog.info? 3 = some (zeroOf Try.prog 3).1)
      have s1 := (by kernel_rfl : (zeroOf Try.prog 3).1.size = 1)
      have h' : Instr.fill (fun (i : Nat) => ([(0, 1), (1, 1), (2, 1), (3, 1)] : List (Nat × Nat))[i]?) #[.slice none 0 0, .int .i64 0, .slice none 0 0, .slice none 0 0] ps = some cells := by rw [e]; exact h
      simp [Instr.build, zeroValue, typeInfo, hi, hz, run_underlying Try.underlying55, sizeOf, Value.cells, h0, s0, h1, s1]
      rw [h']
      rfl
    el := fun e y b h => by cases h
    str := fun h => by cases h
    bl := fun h => by simp [TI.bl] at h
    ik := fun k h => by cases h }
theorem ok_implFault : TI.ok Try.prog 129 ⟨true, [.int .i64 0, .int .i64 0, .int .i64 0, .bool false], [(0, 1, false), (1, 1, false), (2, 1, false), (3, 1, false)], none, none, false⟩ :=
  { info := ⟨_, .agg #[.int .i64 0, .int .i64 0, .int .i64 0, .bool false], (by kernel_rfl : Try.prog.info? 129 = some (zeroOf Try.prog 129).1), (by kernel_rfl), rfl, (by kernel_rfl)⟩
    und := ⟨_, Try.underlying129⟩
    isAgg := fun w => by simp [isAgg, run_underlying Try.underlying129]
    flds := fun _ => ⟨_, Try.underlying129, (by kernel_rfl), fun k f g hf hg => by
      rcases k with _ | _ | _ | _ | _
      · simp at hf hg; subst hf hg; exact ⟨by decide, fun w => by simp [isAgg, run_underlying Try.underlying3]⟩
      · simp at hf hg; subst hf hg; exact ⟨by decide, fun w => by simp [isAgg, run_underlying Try.underlying3]⟩
      · simp at hf hg; subst hf hg; exact ⟨by decide, fun w => by simp [isAgg, run_underlying Try.underlying3]⟩
      · simp at hf hg; subst hf hg; exact ⟨by decide, fun w => by simp [isAgg, run_underlying Try.underlying4]⟩
      · simp at hf⟩
    bld := fun _ ps cells w h => by
      have e : (fun (i : Nat) => ([(0, 1), (1, 1), (2, 1), (3, 1)] : List (Nat × Nat))[i]?) = (fun (i : Nat) => (([(0, 1, false), (1, 1, false), (2, 1, false), (3, 1, false)] : List (Nat × Nat × Bool))[i]?).map fun (g : Nat × Nat × Bool) => (g.1, g.2.1)) := by
        funext i
        rcases i with _ | _ | _ | _ | _ <;> simp
      have hi := (by kernel_rfl : Try.prog.info? 129 = some (zeroOf Try.prog 129).1)
      have hz := (by kernel_rfl : (zeroOf Try.prog 129).1.zero = some (.agg #[.int .i64 0, .int .i64 0, .int .i64 0, .bool false]))
      have h0 := (by kernel_rfl : Try.prog.info? 3 = some (zeroOf Try.prog 3).1)
      have s0 := (by kernel_rfl : (zeroOf Try.prog 3).1.size = 1)
      have h1 := (by kernel_rfl : Try.prog.info? 4 = some (zeroOf Try.prog 4).1)
      have s1 := (by kernel_rfl : (zeroOf Try.prog 4).1.size = 1)
      have h' : Instr.fill (fun (i : Nat) => ([(0, 1), (1, 1), (2, 1), (3, 1)] : List (Nat × Nat))[i]?) #[.int .i64 0, .int .i64 0, .int .i64 0, .bool false] ps = some cells := by rw [e]; exact h
      simp [Instr.build, zeroValue, typeInfo, hi, hz, run_underlying Try.underlying129, sizeOf, Value.cells, h0, s0, h1, s1]
      rw [h']
      rfl
    el := fun e y b h => by cases h
    str := fun h => by cases h
    bl := fun h => by simp [TI.bl] at h
    ik := fun k h => by cases h }
theorem ok_implCipher : TI.ok Try.prog 92 ⟨true, [.int .i64 0, .int .i64 0], [(0, 1, false), (1, 1, false)], none, none, false⟩ :=
  { info := ⟨_, .agg #[.int .i64 0, .int .i64 0], (by kernel_rfl : Try.prog.info? 92 = some (zeroOf Try.prog 92).1), (by kernel_rfl), rfl, (by kernel_rfl)⟩
    und := ⟨_, Try.underlying92⟩
    isAgg := fun w => by simp [isAgg, run_underlying Try.underlying92]
    flds := fun _ => ⟨_, Try.underlying92, (by kernel_rfl), fun k f g hf hg => by
      rcases k with _ | _ | _
      · simp at hf hg; subst hf hg; exact ⟨by decide, fun w => by simp [isAgg, run_underlying Try.underlying3]⟩
      · simp at hf hg; subst hf hg; exact ⟨by decide, fun w => by simp [isAgg, run_underlying Try.underlying3]⟩
      · simp at hf⟩
    bld := fun _ ps cells w h => by
      have e : (fun (i : Nat) => ([(0, 1), (1, 1)] : List (Nat × Nat))[i]?) = (fun (i : Nat) => (([(0, 1, false), (1, 1, false)] : List (Nat × Nat × Bool))[i]?).map fun (g : Nat × Nat × Bool) => (g.1, g.2.1)) := by
        funext i
        rcases i with _ | _ | _ <;> simp
      have hi := (by kernel_rfl : Try.prog.info? 92 = some (zeroOf Try.prog 92).1)
      have hz := (by kernel_rfl : (zeroOf Try.prog 92).1.zero = some (.agg #[.int .i64 0, .int .i64 0]))
      have h0 := (by kernel_rfl : Try.prog.info? 3 = some (zeroOf Try.prog 3).1)
      have s0 := (by kernel_rfl : (zeroOf Try.prog 3).1.size = 1)
      have h' : Instr.fill (fun (i : Nat) => ([(0, 1), (1, 1)] : List (Nat × Nat))[i]?) #[.int .i64 0, .int .i64 0] ps = some cells := by rw [e]; exact h
      simp [Instr.build, zeroValue, typeInfo, hi, hz, run_underlying Try.underlying92, sizeOf, Value.cells, h0, s0]
      rw [h']
      rfl
    el := fun e y b h => by cases h
    str := fun h => by cases h
    bl := fun h => by simp [TI.bl] at h
    ik := fun k h => by cases h }
theorem ok_implPartial : TI.ok Try.prog 89 ⟨true, [.int .i64 0, .int .i64 0, .slice none 0 0, .slice none 0 0, .slice none 0 0], [(0, 1, false), (1, 1, false), (2, 3, true)], none, none, false⟩ :=
  { info := ⟨_, .agg #[.int .i64 0, .int .i64 0, .slice none 0 0, .slice none 0 0, .slice none 0 0], (by kernel_rfl : Try.prog.info? 89 = some (zeroOf Try.prog 89).1), (by kernel_rfl), rfl, (by kernel_rfl)⟩
    und := ⟨_, Try.underlying89⟩
    isAgg := fun w => by simp [isAgg, run_underlying Try.underlying89]
    flds := fun _ => ⟨_, Try.underlying89, (by kernel_rfl), fun k f g hf hg => by
      rcases k with _ | _ | _ | _
      · simp at hf hg; subst hf hg; exact ⟨by decide, fun w => by simp [isAgg, run_underlying Try.underlying3]⟩
      · simp at hf hg; subst hf hg; exact ⟨by decide, fun w => by simp [isAgg, run_underlying Try.underlying3]⟩
      · simp at hf hg; subst hf hg; exact ⟨by decide, fun w => by simp [isAgg, run_underlying Try.underlying67]⟩
      · simp at hf⟩
    bld := fun _ ps cells w h => by
      have e : (fun (i : Nat) => ([(0, 1), (1, 1), (2, 3)] : List (Nat × Nat))[i]?) = (fun (i : Nat) => (([(0, 1, false), (1, 1, false), (2, 3, true)] : List (Nat × Nat × Bool))[i]?).map fun (g : Nat × Nat × Bool) => (g.1, g.2.1)) := by
        funext i
        rcases i with _ | _ | _ | _ <;> simp
      have hi := (by kernel_rfl : Try.prog.info? 89 = some (zeroOf Try.prog 89).1)
      have hz := (by kernel_rfl : (zeroOf Try.prog 89).1.zero = some (.agg #[.int .i64 0, .int .i64 0, .slice none 0 0, .slice none 0 0, .slice none 0 0]))
      have h0 := (by kernel_rfl : Try.prog.info? 3 = some (zeroOf Try.prog 3).1)
      have s0 := (by kernel_rfl : (zeroOf Try.prog 3).1.size = 1)
      have h1 := (by kernel_rfl : Try.prog.info? 67 = some (zeroOf Try.prog 67).1)
      have s1 := (by kernel_rfl : (zeroOf Try.prog 67).1.size = 3)
      have h' : Instr.fill (fun (i : Nat) => ([(0, 1), (1, 1), (2, 3)] : List (Nat × Nat))[i]?) #[.int .i64 0, .int .i64 0, .slice none 0 0, .slice none 0 0, .slice none 0 0] ps = some cells := by rw [e]; exact h
      simp [Instr.build, zeroValue, typeInfo, hi, hz, run_underlying Try.underlying89, sizeOf, Value.cells, h0, s0, h1, s1]
      rw [h']
      rfl
    el := fun e y b h => by cases h
    str := fun h => by cases h
    bl := fun h => by simp [TI.bl] at h
    ik := fun k h => by cases h }
theorem ok_implSDealing : TI.ok Try.prog 31 ⟨false, [.slice none 0 0], [], some (81, (.pair (.list .int) (.list .int)), 48), none, false⟩ :=
  { info := ⟨_, .slice none 0 0, (by kernel_rfl : Try.prog.info? 31 = some (zeroOf Try.prog 31).1), (by kernel_rfl), rfl, (by kernel_rfl)⟩
    und := ⟨_, Try.underlying31⟩
    isAgg := fun w => by simp [isAgg, run_underlying Try.underlying31]
    flds := fun h => absurd rfl h
    bld := fun h => by simp at h
    el := fun e y b h => by
      simp only [Option.some.injEq, Prod.mk.injEq] at h
      obtain ⟨rfl, rfl, rfl⟩ := h
      exact ⟨Try.underlying31, _, (zeroOf Try.prog 81).2, (by kernel_rfl : Try.prog.info? 81 = some (zeroOf Try.prog 81).1), (by kernel_rfl), (by kernel_rfl), (by kernel_rfl), (by kernel_rfl), (by decide), fun W lo => by
        rw [show (zeroOf Try.prog 81).2.cells.toList = [.slice none 0 0, .slice none 0 0] from by kernel_rfl]
        exact ⟨[.slice none 0 0], [.slice none 0 0], [], [], rfl, rfl, ⟨_, 0, rfl, [], [], rfl, rfl, fun k x u b h => by simp [Ty.dflt] at h, World.ownsRow_nil W lo 0 _, rfl⟩, ⟨_, 0, rfl, [], [], rfl, rfl, fun k x u b h => by simp [Ty.dflt] at h, World.ownsRow_nil W lo 0 _, rfl⟩⟩⟩
    str := fun h => by cases h
    bl := fun h => by simp [TI.bl] at h
    ik := fun k h => by cases h }
theorem ok_implSFault : TI.ok Try.prog 49 ⟨false, [.slice none 0 0], [], some (129, (.pair .int (.pair .int (.pair .int .bool))), 32), none, false⟩ :=
  { info := ⟨_, .slice none 0 0, (by kernel_rfl : Try.prog.info? 49 = some (zeroOf Try.prog 49).1), (by kernel_rfl), rfl, (by kernel_rfl)⟩
    und := ⟨_, Try.underlying49⟩
    isAgg := fun w => by simp [isAgg, run_underlying Try.underlying49]
    flds := fun h => absurd rfl h
    bld := fun h => by simp at h
    el := fun e y b h => by
      simp only [Option.some.injEq, Prod.mk.injEq] at h
      obtain ⟨rfl, rfl, rfl⟩ := h
      exact ⟨Try.underlying49, _, (zeroOf Try.prog 129).2, (by kernel_rfl : Try.prog.info? 129 = some (zeroOf Try.prog 129).1), (by kernel_rfl), (by kernel_rfl), (by kernel_rfl), (by kernel_rfl), (by decide), fun W lo => by
        rw [show (zeroOf Try.prog 129).2.cells.toList = [.int .i64 0, .int .i64 0, .int .i64 0, .bool false] from by kernel_rfl]
        exact ⟨[.int .i64 0], [.int .i64 0, .int .i64 0, .bool false], [], [], rfl, rfl, ⟨rfl, rfl⟩, ⟨[.int .i64 0], [.int .i64 0, .bool false], [], [], rfl, rfl, ⟨rfl, rfl⟩, ⟨[.int .i64 0], [.bool false], [], [], rfl, rfl, ⟨rfl, rfl⟩, ⟨rfl, rfl⟩⟩⟩⟩⟩
    str := fun h => by cases h
    bl := fun h => by simp [TI.bl] at h
    ik := fun k h => by cases h }
theorem ok_implSCipher : TI.ok Try.prog 175 ⟨false, [.slice none 0 0], [], some (92, (.pair .int .int), 16), none, false⟩ :=
  { info := ⟨_, .slice none 0 0, (by kernel_rfl : Try.prog.info? 175 = some (zeroOf Try.prog 175).1), (by kernel_rfl), rfl, (by kernel_rfl)⟩
    und := ⟨_, Try.underlying175⟩
    isAgg := fun w => by simp [isAgg, run_underlying Try.underlying175]
    flds := fun h => absurd rfl h
    bld := fun h => by simp at h
    el := fun e y b h => by
      simp only [Option.some.injEq, Prod.mk.injEq] at h
      obtain ⟨rfl, rfl, rfl⟩ := h
      exact ⟨Try.underlying175, _, (zeroOf Try.prog 92).2, (by kernel_rfl : Try.prog.info? 92 = some (zeroOf Try.prog 92).1), (by kernel_rfl), (by kernel_rfl), (by kernel_rfl), (by kernel_rfl), (by decide), fun W lo => by
        rw [show (zeroOf Try.prog 92).2.cells.toList = [.int .i64 0, .int .i64 0] from by kernel_rfl]
        exact ⟨[.int .i64 0], [.int .i64 0], [], [], rfl, rfl, ⟨rfl, rfl⟩, ⟨rfl, rfl⟩⟩⟩
    str := fun h => by cases h
    bl := fun h => by simp [TI.bl] at h
    ik := fun k h => by cases h }
theorem ok_implSPartial : TI.ok Try.prog 103 ⟨false, [.slice none 0 0], [], some (89, (.pair .int (.pair .int (.pair (.list .int) (.pair (.list .int) (.list .int))))), 88), none, false⟩ :=
  { info := ⟨_, .slice none 0 0, (by kernel_rfl : Try.prog.info? 103 = some (zeroOf Try.prog 103).1), (by kernel_rfl), rfl, (by kernel_rfl)⟩
    und := ⟨_, Try.underlying103⟩
    isAgg := fun w => by simp [isAgg, run_underlying Try.underlying103]
    flds := fun h => absurd rfl h
    bld := fun h => by simp at h
    el := fun e y b h => by
      simp only [Option.some.injEq, Prod.mk.injEq] at h
      obtain ⟨rfl, rfl, rfl⟩ := h
      exact ⟨Try.underlying103, _, (zeroOf Try.prog 89).2, (by kernel_rfl : Try.prog.info? 89 = some (zeroOf Try.prog 89).1), (by kernel_rfl), (by kernel_rfl), (by kernel_rfl), (by kernel_rfl), (by decide), fun W lo => by
        rw [show (zeroOf Try.prog 89).2.cells.toList = [.int .i64 0, .int .i64 0, .slice none 0 0, .slice none 0 0, .slice none 0 0] from by kernel_rfl]
        exact ⟨[.int .i64 0], [.int .i64 0, .slice none 0 0, .slice none 0 0, .slice none 0 0], [], [], rfl, rfl, ⟨rfl, rfl⟩, ⟨[.int .i64 0], [.slice none 0 0, .slice none 0 0, .slice none 0 0], [], [], rfl, rfl, ⟨rfl, rfl⟩, ⟨[.slice none 0 0], [.slice none 0 0, .slice none 0 0], [], [], rfl, rfl, ⟨_, 0, rfl, [], [], rfl, rfl, fun k x u b h => by simp [Ty.dflt] at h, World.ownsRow_nil W lo 0 _, rfl⟩, ⟨[.slice none 0 0], [.slice none 0 0], [], [], rfl, rfl, ⟨_, 0, rfl, [], [], rfl, rfl, fun k x u b h => by simp [Ty.dflt] at h, World.ownsRow_nil W lo 0 _, rfl⟩, ⟨_, 0, rfl, [], [], rfl, rfl, fun k x u b h => by simp [Ty.dflt] at h, World.ownsRow_nil W lo 0 _, rfl⟩⟩⟩⟩⟩⟩
    str := fun h => by cases h
    bl := fun h => by simp [TI.bl] at h
    ik := fun k h => by cases h }
theorem ok_lawsGroup : TI.ok Try.prog 23 ⟨true, [.int .i64 0, .int .i64 0, .int .i64 0], [(0, 1, false), (1, 1, false), (2, 1, false)], none, none, false⟩ :=
  { info := ⟨_, .agg #[.int .i64 0, .int .i64 0, .int .i64 0], (by kernel_rfl : Try.prog.info? 23 = some (zeroOf Try.prog 23).1), (by kernel_rfl), rfl, (by kernel_rfl)⟩
    und := ⟨_, Try.underlying23⟩
    isAgg := fun w => by simp [isAgg, run_underlying Try.underlying23]
    flds := fun _ => ⟨_, Try.underlying23, (by kernel_rfl), fun k f g hf hg => by
      rcases k with _ | _ | _ | _
      · simp at hf hg; subst hf hg; exact ⟨by decide, fun w => by simp [isAgg, run_underlying Try.underlying3]⟩
      · simp at hf hg; subst hf hg; exact ⟨by decide, fun w => by simp [isAgg, run_underlying Try.underlying3]⟩
      · simp at hf hg; subst hf hg; exact ⟨by decide, fun w => by simp [isAgg, run_underlying Try.underlying3]⟩
      · simp at hf⟩
    bld := fun _ ps cells w h => by
      have e : (fun (i : Nat) => ([(0, 1), (1, 1), (2, 1)] : List (Nat × Nat))[i]?) = (fun (i : Nat) => (([(0, 1, false), (1, 1, false), (2, 1, false)] : List (Nat × Nat × Bool))[i]?).map fun (g : Nat × Nat × Bool) => (g.1, g.2.1)) := by
        funext i
        rcases i with _ | _ | _ | _ <;> simp
      have hi := (by kernel_rfl : Try.prog.info? 23 = some (zeroOf Try.prog 23).1)
      have hz := (by kernel_rfl : (zeroOf Try.prog 23).1.zero = some (.agg #[.int .i64 0, .int .i64 0, .int .i64 0]))
      have h0 := (by kernel_rfl : Try.prog.info? 3 = some (zeroOf Try.prog 3).1)
      have s0 := (by kernel_rfl : (zeroOf Try.prog 3).1.size = 1)
      have h' : Instr.fill (fun (i : Nat) => ([(0, 1), (1, 1), (2, 1)] : List (Nat × Nat))[i]?) #[.int .i64 0, .int .i64 0, .int .i64 0] ps = some cells := by rw [e]; exact h
      simp [Instr.build, zeroValue, typeInfo, hi, hz, run_underlying Try.underlying23, sizeOf, Value.cells, h0, s0]
      rw [h']
      rfl
    el := fun e y b h => by cases h
    str := fun h => by cases h
    bl := fun h => by simp [TI.bl] at h
    ik := fun k h => by cases h }
theorem ok_lawsProof : TI.ok Try.prog 76 ⟨true, [.slice none 0 0, .slice none 0 0, .slice none 0 0], [(0, 1, false), (1, 1, false), (2, 1, false)], none, none, false⟩ :=
  { info := ⟨_, .agg #[.slice none 0 0, .slice none 0 0, .slice none 0 0], (by kernel_rfl : Try.prog.info? 76 = some (zeroOf Try.prog 76).1), (by kernel_rfl), rfl, (by kernel_rfl)⟩
    und := ⟨_, Try.underlying76⟩
    isAgg := fun w => by simp [isAgg, run_underlying Try.underlying76]
    flds := fun _ => ⟨_, Try.underlying76, (by kernel_rfl), fun k f g hf hg => by
      rcases k with _ | _ | _ | _
      · simp at hf hg; subst hf hg; exact ⟨by decide, fun w => by simp [isAgg, run_underlying Try.underlying38]⟩
      · simp at hf hg; subst hf hg; exact ⟨by decide, fun w => by simp [isAgg, run_underlying Try.underlying38]⟩
      · simp at hf hg; subst hf hg; exact ⟨by decide, fun w => by simp [isAgg, run_underlying Try.underlying38]⟩
      · simp at hf⟩
    bld := fun _ ps cells w h => by
      have e : (fun (i : Nat) => ([(0, 1), (1, 1), (2, 1)] : List (Nat × Nat))[i]?) = (fun (i : Nat) => (([(0, 1, false), (1, 1, false), (2, 1, false)] : List (Nat × Nat × Bool))[i]?).map fun (g : Nat × Nat × Bool) => (g.1, g.2.1)) := by
        funext i
        rcases i with _ | _ | _ | _ <;> simp
      have hi := (by kernel_rfl : Try.prog.info? 76 = some (zeroOf Try.prog 76).1)
      have hz := (by kernel_rfl : (zeroOf Try.prog 76).1.zero = some (.agg #[.slice none 0 0, .slice none 0 0, .slice none 0 0]))
      have h0 := (by kernel_rfl : Try.prog.info? 38 = some (zeroOf Try.prog 38).1)
      have s0 := (by kernel_rfl : (zeroOf Try.prog 38).1.size = 1)
      have h' : Instr.fill (fun (i : Nat) => ([(0, 1), (1, 1), (2, 1)] : List (Nat × Nat))[i]?) #[.slice none 0 0, .slice none 0 0, .slice none 0 0] ps = some cells := by rw [e]; exact h
      simp [Instr.build, zeroValue, typeInfo, hi, hz, run_underlying Try.underlying76, sizeOf, Value.cells, h0, s0]
      rw [h']
      rfl
    el := fun e y b h => by cases h
    str := fun h => by cases h
    bl := fun h => by simp [TI.bl] at h
    ik := fun k h => by cases h }
theorem ok_lawsDealing : TI.ok Try.prog 75 ⟨true, [.slice none 0 0, .slice none 0 0], [(0, 1, false), (1, 1, false)], none, none, false⟩ :=
  { info := ⟨_, .agg #[.slice none 0 0, .slice none 0 0], (by kernel_rfl : Try.prog.info? 75 = some (zeroOf Try.prog 75).1), (by kernel_rfl), rfl, (by kernel_rfl)⟩
    und := ⟨_, Try.underlying75⟩
    isAgg := fun w => by simp [isAgg, run_underlying Try.underlying75]
    flds := fun _ => ⟨_, Try.underlying75, (by kernel_rfl), fun k f g hf hg => by
      rcases k with _ | _ | _
      · simp at hf hg; subst hf hg; exact ⟨by decide, fun w => by simp [isAgg, run_underlying Try.underlying38]⟩
      · simp at hf hg; subst hf hg; exact ⟨by decide, fun w => by simp [isAgg, run_underlying Try.underlying38]⟩
      · simp at hf⟩
    bld := fun _ ps cells w h => by
      have e : (fun (i : Nat) => ([(0, 1), (1, 1)] : List (Nat × Nat))[i]?) = (fun (i : Nat) => (([(0, 1, false), (1, 1, false)] : List (Nat × Nat × Bool))[i]?).map fun (g : Nat × Nat × Bool) => (g.1, g.2.1)) := by
        funext i
        rcases i with _ | _ | _ <;> simp
      have hi := (by kernel_rfl : Try.prog.info? 75 = some (zeroOf Try.prog 75).1)
      have hz := (by kernel_rfl : (zeroOf Try.prog 75).1.zero = some (.agg #[.slice none 0 0, .slice none 0 0]))
      have h0 := (by kernel_rfl : Try.prog.info? 38 = some (zeroOf Try.prog 38).1)
      have s0 := (by kernel_rfl : (zeroOf Try.prog 38).1.size = 1)
      have h' : Instr.fill (fun (i : Nat) => ([(0, 1), (1, 1)] : List (Nat × Nat))[i]?) #[.slice none 0 0, .slice none 0 0] ps = some cells := by rw [e]; exact h
      simp [Instr.build, zeroValue, typeInfo, hi, hz, run_underlying Try.underlying75, sizeOf, Value.cells, h0, s0]
      rw [h']
      rfl
    el := fun e y b h => by cases h
    str := fun h => by cases h
    bl := fun h => by simp [TI.bl] at h
    ik := fun k h => by cases h }
theorem ok_lawsKeyGen : TI.ok Try.prog 60 ⟨true, [.slice none 0 0, .int .i64 0, .slice none 0 0, .slice none 0 0], [(0, 1, false), (1, 1, false), (2, 1, false), (3, 1, false)], none, none, false⟩ :=
  { info := ⟨_, .agg #[.slice none 0 0, .int .i64 0, .slice none 0 0, .slice none 0 0], (by kernel_rfl : Try.prog.info? 60 = some (zeroOf Try.prog 60).1), (by kernel_rfl), rfl, (by kernel_rfl)⟩
    und := ⟨_, Try.underlying60⟩
    isAgg := fun w => by simp [isAgg, run_underlying Try.underlying60]
    flds := fun _ => ⟨_, Try.underlying60, (by kernel_rfl), fun k f g hf hg => by
      rcases k with _ | _ | _ | _ | _
      · simp at hf hg; subst hf hg; exact ⟨by decide, fun w => by simp [isAgg, run_underlying Try.underlying38]⟩
      · simp at hf hg; subst hf hg; exact ⟨by decide, fun w => by simp [isAgg, run_underlying Try.underlying3]⟩
      · simp at hf hg; subst hf hg; exact ⟨by decide, fun w => by simp [isAgg, run_underlying Try.underlying38]⟩
      · simp at hf hg; subst hf hg; exact ⟨by decide, fun w => by simp [isAgg, run_underlying Try.underlying38]⟩
      · simp at hf⟩
    bld := fun _ ps cells w h => by
      have e : (fun (i : Nat) => ([(0, 1), (1, 1), (2, 1), (3, 1)] : List (Nat × Nat))[i]?) = (fun (i : Nat) => (([(0, 1, false), (1, 1, false), (2, 1, false), (3, 1, false)] : List (Nat × Nat × Bool))[i]?).map fun (g : Nat × Nat × Bool) => (g.1, g.2.1)) := by
        funext i
        rcases i with _ | _ | _ | _ | _ <;> simp
      have hi := (by kernel_rfl : Try.prog.info? 60 = some (zeroOf Try.prog 60).1)
      have hz := (by kernel_rfl : (zeroOf Try.prog 60).1.zero = some (.agg #[.slice none 0 0, .int .i64 0, .slice none 0 0, .slice none 0 0]))
      have h0 := (by kernel_rfl : Try.prog.info? 38 = some (zeroOf Try.prog 38).1)
      have s0 := (by kernel_rfl : (zeroOf Try.prog 38).1.size = 1)
      have h1 := (by kernel_rfl : Try.prog.info? 3 = some (zeroOf Try.prog 3).1)
      have s1 := (by kernel_rfl : (zeroOf Try.prog 3).1.size = 1)
      have h' : Instr.fill (fun (i : Nat) => ([(0, 1), (1, 1), (2, 1), (3, 1)] : List (Nat × Nat))[i]?) #[.slice none 0 0, .int .i64 0, .slice none 0 0, .slice none 0 0] ps = some cells := by rw [e]; exact h
      simp [Instr.build, zeroValue, typeInfo, hi, hz, run_underlying Try.underlying60, sizeOf, Value.cells, h0, s0, h1, s1]
      rw [h']
      rfl
    el := fun e y b h => by cases h
    str := fun h => by cases h
    bl := fun h => by simp [TI.bl] at h
    ik := fun k h => by cases h }
theorem ok_lawsFault : TI.ok Try.prog 132 ⟨true, [.int .i64 0, .int .i64 0, .int .i64 0, .bool false], [(0, 1, false), (1, 1, false), (2, 1, false), (3, 1, false)], none, none, false⟩ :=
  { info := ⟨_, .agg #[.int .i64 0, .int .i64 0, .int .i64 0, .bool false], (by kernel_rfl : Try.prog.info? 132 = some (zeroOf Try.prog 132).1), (by kernel_rfl), rfl, (by kernel_rfl)⟩
    und := ⟨_, Try.underlying132⟩
    isAgg := fun w => by simp [isAgg, run_underlying Try.underlying132]
    flds := fun _ => ⟨_, Try.underlying132, (by kernel_rfl), fun k f g hf hg => by
      rcases k with _ | _ | _ | _ | _
      · simp at hf hg; subst hf hg; exact ⟨by decide, fun w => by simp [isAgg, run_underlying Try.underlying3]⟩
      · simp at hf hg; subst hf hg; exact ⟨by decide, fun w => by simp [isAgg, run_underlying Try.underlying3]⟩
      · simp at hf hg; subst hf hg; exact ⟨by decide, fun w => by simp [isAgg, run_underlying Try.underlying3]⟩
      · simp at hf hg; subst hf hg; exact ⟨by decide, fun w => by simp [isAgg, run_underlying Try.underlying4]⟩
      · simp at hf⟩
    bld := fun _ ps cells w h => by
      have e : (fun (i : Nat) => ([(0, 1), (1, 1), (2, 1), (3, 1)] : List (Nat × Nat))[i]?) = (fun (i : Nat) => (([(0, 1, false), (1, 1, false), (2, 1, false), (3, 1, false)] : List (Nat × Nat × Bool))[i]?).map fun (g : Nat × Nat × Bool) => (g.1, g.2.1)) := by
        funext i
        rcases i with _ | _ | _ | _ | _ <;> simp
      have hi := (by kernel_rfl : Try.prog.info? 132 = some (zeroOf Try.prog 132).1)
      have hz := (by kernel_rfl : (zeroOf Try.prog 132).1.zero = some (.agg #[.int .i64 0, .int .i64 0, .int .i64 0, .bool false]))
      have h0 := (by kernel_rfl : Try.prog.info? 3 = some (zeroOf Try.prog 3).1)
      have s0 := (by kernel_rfl : (zeroOf Try.prog 3).1.size = 1)
      have h1 := (by kernel_rfl : Try.prog.info? 4 = some (zeroOf Try.prog 4).1)
      have s1 := (by kernel_rfl : (zeroOf Try.prog 4).1.size = 1)
      have h' : Instr.fill (fun (i : Nat) => ([(0, 1), (1, 1), (2, 1), (3, 1)] : List (Nat × Nat))[i]?) #[.int .i64 0, .int .i64 0, .int .i64 0, .bool false] ps = some cells := by rw [e]; exact h
      simp [Instr.build, zeroValue, typeInfo, hi, hz, run_underlying Try.underlying132, sizeOf, Value.cells, h0, s0, h1, s1]
      rw [h']
      rfl
    el := fun e y b h => by cases h
    str := fun h => by cases h
    bl := fun h => by simp [TI.bl] at h
    ik := fun k h => by cases h }
theorem ok_lawsCipher : TI.ok Try.prog 87 ⟨true, [.int .i64 0, .int .i64 0], [(0, 1, false), (1, 1, false)], none, none, false⟩ :=
  { info := ⟨_, .agg #[.int .i64 0, .int .i64 0], (by kernel_rfl : Try.prog.info? 87 = some (zeroOf Try.prog 87).1), (by kernel_rfl), rfl, (by kernel_rfl)⟩
    und := ⟨_, Try.underlying87⟩
    isAgg := fun w => by simp [isAgg, run_underlying Try.underlying87]
    flds := fun _ => ⟨_, Try.underlying87, (by kernel_rfl), fun k f g hf hg => by
      rcases k with _ | _ | _
      · simp at hf hg; subst hf hg; exact ⟨by decide, fun w => by simp [isAgg, run_underlying Try.underlying3]⟩
      · simp at hf hg; subst hf hg; exact ⟨by decide, fun w => by simp [isAgg, run_underlying Try.underlying3]⟩
      · simp at hf⟩
    bld := fun _ ps cells w h => by
      have e : (fun (i : Nat) => ([(0, 1), (1, 1)] : List (Nat × Nat))[i]?) = (fun (i : Nat) => (([(0, 1, false), (1, 1, false)] : List (Nat × Nat × Bool))[i]?).map fun (g : Nat × Nat × Bool) => (g.1, g.2.1)) := by
        funext i
        rcases i with _ | _ | _ <;> simp
      have hi := (by kernel_rfl : Try.prog.info? 87 = some (zeroOf Try.prog 87).1)
      have hz := (by kernel_rfl : (zeroOf Try.prog 87).1.zero = some (.agg #[.int .i64 0, .int .i64 0]))
      have h0 := (by kernel_rfl : Try.prog.info? 3 = some (zeroOf Try.prog 3).1)
      have s0 := (by kernel_rfl : (zeroOf Try.prog 3).1.size = 1)
      have h' : Instr.fill (fun (i : Nat) => ([(0, 1), (1, 1)] : List (Nat × Nat))[i]?) #[.int .i64 0, .int .i64 0] ps = some cells := by rw [e]; exact h
      simp [Instr.build, zeroValue, typeInfo, hi, hz, run_underlying Try.underlying87, sizeOf, Value.cells, h0, s0]
      rw [h']
      rfl
    el := fun e y b h => by cases h
    str := fun h => by cases h
    bl := fun h => by simp [TI.bl] at h
    ik := fun k h => by cases h }
theorem ok_lawsPartial : TI.ok Try.prog 98 ⟨true, [.int .i64 0, .int .i64 0, .slice none 0 0, .slice none 0 0, .slice none 0 0], [(0, 1, false), (1, 1, false), (2, 3, true)], none, none, false⟩ :=
  { info := ⟨_, .agg #[.int .i64 0, .int .i64 0, .slice none 0 0, .slice none 0 0, .slice none 0 0], (by kernel_rfl : Try.prog.info? 98 = some (zeroOf Try.prog 98).1), (by kernel_rfl), rfl, (by kernel_rfl)⟩
    und := ⟨_, Try.underlying98⟩
    isAgg := fun w => by simp [isAgg, run_underlying Try.underlying98]
    flds := fun _ => ⟨_, Try.underlying98, (by kernel_rfl), fun k f g hf hg => by
      rcases k with _ | _ | _ | _
      · simp at hf hg; subst hf hg; exact ⟨by decide, fun w => by simp [isAgg, run_underlying Try.underlying3]⟩
      · simp at hf hg; subst hf hg; exact ⟨by decide, fun w => by simp [isAgg, run_underlying Try.underlying3]⟩
      · simp at hf hg; subst hf hg; exact ⟨by decide, fun w => by simp [isAgg, run_underlying Try.underlying76]⟩
      · simp at hf⟩
    bld := fun _ ps cells w h => by
      have e : (fun (i : Nat) => ([(0, 1), (1, 1), (2, 3)] : List (Nat × Nat))[i]?) = (fun (i : Nat) => (([(0, 1, false), (1, 1, false), (2, 3, true)] : List (Nat × Nat × Bool))[i]?).map fun (g : Nat × Nat × Bool) => (g.1, g.2.1)) := by
        funext i
        rcases i with _ | _ | _ | _ <;> simp
      have hi := (by kernel_rfl : Try.prog.info? 98 = some (zeroOf Try.prog 98).1)
      have hz := (by kernel_rfl : (zeroOf Try.prog 98).1.zero = some (.agg #[.int .i64 0, .int .i64 0, .slice none 0 0, .slice none 0 0, .slice none 0 0]))
      have h0 := (by kernel_rfl : Try.prog.info? 3 = some (zeroOf Try.prog 3).1)
      have s0 := (by kernel_rfl : (zeroOf Try.prog 3).1.size = 1)
      have h1 := (by kernel_rfl : Try.prog.info? 76 = some (zeroOf Try.prog 76).1)
      have s1 := (by kernel_rfl : (zeroOf Try.prog 76).1.size = 3)
      have h' : Instr.fill (fun (i : Nat) => ([(0, 1), (1, 1), (2, 3)] : List (Nat × Nat))[i]?) #[.int .i64 0, .int .i64 0, .slice none 0 0, .slice none 0 0, .slice none 0 0] ps = some cells := by rw [e]; exact h
      simp [Instr.build, zeroValue, typeInfo, hi, hz, run_underlying Try.underlying98, sizeOf, Value.cells, h0, s0, h1, s1]
      rw [h']
      rfl
    el := fun e y b h => by cases h
    str := fun h => by cases h
    bl := fun h => by simp [TI.bl] at h
    ik := fun k h => by cases h }
theorem ok_lawsSDealing : TI.ok Try.prog 24 ⟨false, [.slice none 0 0], [], some (75, (.pair (.list .int) (.list .int)), 48), none, false⟩ :=
  { info := ⟨_, .slice none 0 0, (by kernel_rfl : Try.prog.info? 24 = some (zeroOf Try.prog 24).1), (by kernel_rfl), rfl, (by kernel_rfl)⟩
    und := ⟨_, Try.underlying24⟩
    isAgg := fun w => by simp [isAgg, run_underlying Try.underlying24]
    flds := fun h => absurd rfl h
    bld := fun h => by simp at h
    el := fun e y b h => by
      simp only [Option.some.injEq, Prod.mk.injEq] at h
      obtain ⟨rfl, rfl, rfl⟩ := h
      exact ⟨Try.underlying24, _, (zeroOf Try.prog 75).2, (by kernel_rfl : Try.prog.info? 75 = some (zeroOf Try.prog 75).1), (by kernel_rfl), (by kernel_rfl), (by kernel_rfl), (by kernel_rfl), (by decide), fun W lo => by
        rw [show (zeroOf Try.prog 75).2.cells.toList = [.slice none 0 0, .slice none 0 0] from by kernel_rfl]
        exact ⟨[.slice none 0 0], [.slice none 0 0], [], [], rfl, rfl, ⟨_, 0, rfl, [], [], rfl, rfl, fun k x u b h => by simp [Ty.dflt] at h, World.ownsRow_nil W lo 0 _, rfl⟩, ⟨_, 0, rfl, [], [], rfl, rfl, fun k x u b h => by simp [Ty.dflt] at h, World.ownsRow_nil W lo 0 _, rfl⟩⟩⟩
    str := fun h => by cases h
    bl := fun h => by simp [TI.bl] at h
    ik := fun k h => by cases h }
theorem ok_lawsSFault : TI.ok Try.prog 45 ⟨false, [.slice none 0 0], [], some (132, (.pair .int (.pair .int (.pair .int .bool))), 32), none, false⟩ :=
  { info := ⟨_, .slice none 0 0, (by kernel_rfl : Try.prog.info? 45 = some (zeroOf Try.prog 45).1), (by kernel_rfl), rfl, (by kernel_rfl)⟩
    und := ⟨_, Try.underlying45⟩
    isAgg := fun w => by simp [isAgg, run_underlying Try.underlying45]
    flds := fun h => absurd rfl h
    bld := fun h => by simp at h
    el := fun e y b h => by
      simp only [Option.some.injEq, Prod.mk.injEq] at h
      obtain ⟨rfl, rfl, rfl⟩ := h
      exact ⟨Try.underlying45, _, (zeroOf Try.prog 132).2, (by kernel_rfl : Try.prog.info? 132 = some (zeroOf Try.prog 132).1), (by kernel_rfl), (by kernel_rfl), (by kernel_rfl), (by kernel_rfl), (by decide), fun W lo => by
        rw [show (zeroOf Try.prog 132).2.cells.toList = [.int .i64 0, .int .i64 0, .int .i64 0, .bool false] from by kernel_rfl]
        exact ⟨[.int .i64 0], [.int .i64 0, .int .i64 0, .bool false], [], [], rfl, rfl, ⟨rfl, rfl⟩, ⟨[.int .i64 0], [.int .i64 0, .bool false], [], [], rfl, rfl, ⟨rfl, rfl⟩, ⟨[.int .i64 0], [.bool false], [], [], rfl, rfl, ⟨rfl, rfl⟩, ⟨rfl, rfl⟩⟩⟩⟩⟩
    str := fun h => by cases h
    bl := fun h => by simp [TI.bl] at h
    ik := fun k h => by cases h }
theorem ok_lawsSPartial : TI.ok Try.prog 109 ⟨false, [.slice none 0 0], [], some (98, (.pair .int (.pair .int (.pair (.list .int) (.pair (.list .int) (.list .int))))), 88), none, false⟩ :=
  { info := ⟨_, .slice none 0 0, (by kernel_rfl : Try.prog.info? 109 = some (zeroOf Try.prog 109).1), (by kernel_rfl), rfl, (by kernel_rfl)⟩
    und := ⟨_, Try.underlying109⟩
    isAgg := fun w => by simp [isAgg, run_underlying Try.underlying109]
    flds := fun h => absurd rfl h
    bld := fun h => by simp at h
    el := fun e y b h => by
      simp only [Option.some.injEq, Prod.mk.injEq] at h
      obtain ⟨rfl, rfl, rfl⟩ := h
      exact ⟨Try.underlying109, _, (zeroOf Try.prog 98).2, (by kernel_rfl : Try.prog.info? 98 = some (zeroOf Try.prog 98).1), (by kernel_rfl), (by kernel_rfl), (by kernel_rfl), (by kernel_rfl), (by decide), fun W lo => by
        rw [show (zeroOf Try.prog 98).2.cells.toList = [.int .i64 0, .int .i64 0, .slice none 0 0, .slice none 0 0, .slice none 0 0] from by kernel_rfl]
        exact ⟨[.int .i64 0], [.int .i64 0, .slice none 0 0, .slice none 0 0, .slice none 0 0], [], [], rfl, rfl, ⟨rfl, rfl⟩, ⟨[.int .i64 0], [.slice none 0 0, .slice none 0 0, .slice none 0 0], [], [], rfl, rfl, ⟨rfl, rfl⟩, ⟨[.slice none 0 0], [.slice none 0 0, .slice none 0 0], [], [], rfl, rfl, ⟨_, 0, rfl, [], [], rfl, rfl, fun k x u b h => by simp [Ty.dflt] at h, World.ownsRow_nil W lo 0 _, rfl⟩, ⟨[.slice none 0 0], [.slice none 0 0], [], [], rfl, rfl, ⟨_, 0, rfl, [], [], rfl, rfl, fun k x u b h => by simp [Ty.dflt] at h, World.ownsRow_nil W lo 0 _, rfl⟩, ⟨_, 0, rfl, [], [], rfl, rfl, fun k x u b h => by simp [Ty.dflt] at h, World.ownsRow_nil W lo 0 _, rfl⟩⟩⟩⟩⟩⟩
    str := fun h => by cases h
    bl := fun h => by simp [TI.bl] at h
    ik := fun k h => by cases h }
def TT : List (Nat × TI) := [
  (3, ⟨false, [.int .i64 0], [], none, (some .i64), false⟩),
  (4, ⟨false, [.bool false], [], none, none, false⟩),
  (9, ⟨false, [.string ByteArray.empty], [], none, none, true⟩),
  (206, ⟨false, [.int .u64 0], [], none, (some .u64), false⟩),
  (38, ⟨false, [.slice none 0 0], [], some (3, .int, 8), none, false⟩),
  (26, ⟨false, [.slice none 0 0], [], some (38, (.list .int), 24), none, false⟩),
  (127, ⟨false, [.slice none 0 0], [], some (4, .bool, 1), none, false⟩),
  (29, ⟨true, [.int .i64 0, .int .i64 0, .int .i64 0], [(0, 1, false), (1, 1, false), (2, 1, false)], none, none, false⟩),
  (67, ⟨true, [.slice none 0 0, .slice none 0 0, .slice none 0 0], [(0, 1, false), (1, 1, false), (2, 1, false)], none, none, false⟩),
  (181, ⟨true, [.int .i64 0, .int .i64 0, .int .i64 0, .int .i64 0], [(0, 1, false), (1, 1, false), (2, 1, false), (3, 1, false)], none, none, false⟩),
  (81, ⟨true, [.slice none 0 0, .slice none 0 0], [(0, 1, false), (1, 1, false)], none, none, false⟩),
  (55, ⟨true, [.slice none 0 0, .int .i64 0, .slice none 0 0, .slice none 0 0], [(0, 1, false), (1, 1, false), (2, 1, false), (3, 1, false)], none, none, false⟩),
  (129, ⟨true, [.int .i64 0, .int .i64 0, .int .i64 0, .bool false], [(0, 1, false), (1, 1, false), (2, 1, false), (3, 1, false)], none, none, false⟩),
  (92, ⟨true, [.int .i64 0, .int .i64 0], [(0, 1, false), (1, 1, false)], none, none, false⟩),
  (89, ⟨true, [.int .i64 0, .int .i64 0, .slice none 0 0, .slice none 0 0, .slice none 0 0], [(0, 1, false), (1, 1, false), (2, 3, true)], none, none, false⟩),
  (31, ⟨false, [.slice none 0 0], [], some (81, (.pair (.list .int) (.list .int)), 48), none, false⟩),
  (49, ⟨false, [.slice none 0 0], [], some (129, (.pair .int (.pair .int (.pair .int .bool))), 32), none, false⟩),
  (175, ⟨false, [.slice none 0 0], [], some (92, (.pair .int .int), 16), none, false⟩),
  (103, ⟨false, [.slice none 0 0], [], some (89, (.pair .int (.pair .int (.pair (.list .int) (.pair (.list .int) (.list .int))))), 88), none, false⟩),
  (23, ⟨true, [.int .i64 0, .int .i64 0, .int .i64 0], [(0, 1, false), (1, 1, false), (2, 1, false)], none, none, false⟩),
  (76, ⟨true, [.slice none 0 0, .slice none 0 0, .slice none 0 0], [(0, 1, false), (1, 1, false), (2, 1, false)], none, none, false⟩),
  (75, ⟨true, [.slice none 0 0, .slice none 0 0], [(0, 1, false), (1, 1, false)], none, none, false⟩),
  (60, ⟨true, [.slice none 0 0, .int .i64 0, .slice none 0 0, .slice none 0 0], [(0, 1, false), (1, 1, false), (2, 1, false), (3, 1, false)], none, none, false⟩),
  (132, ⟨true, [.int .i64 0, .int .i64 0, .int .i64 0, .bool false], [(0, 1, false), (1, 1, false), (2, 1, false), (3, 1, false)], none, none, false⟩),
  (87, ⟨true, [.int .i64 0, .int .i64 0], [(0, 1, false), (1, 1, false)], none, none, false⟩),
  (98, ⟨true, [.int .i64 0, .int .i64 0, .slice none 0 0, .slice none 0 0, .slice none 0 0], [(0, 1, false), (1, 1, false), (2, 3, true)], none, none, false⟩),
  (24, ⟨false, [.slice none 0 0], [], some (75, (.pair (.list .int) (.list .int)), 48), none, false⟩),
  (45, ⟨false, [.slice none 0 0], [], some (132, (.pair .int (.pair .int (.pair .int .bool))), 32), none, false⟩),
  (109, ⟨false, [.slice none 0 0], [], some (98, (.pair .int (.pair .int (.pair (.list .int) (.pair (.list .int) (.list .int))))), 88), none, false⟩),
  (1000000, ⟨false, [], [], none, none, false⟩)]
@[reducible] def Th : TypeId → Option TI := fun t => look TT.dropLast t
theorem Th_int : Th 3 = some ⟨false, [.int .i64 0], [], none, (some .i64), false⟩ := rfl
theorem Th_bool : Th 4 = some ⟨false, [.bool false], [], none, none, false⟩ := rfl
theorem Th_string : Th 9 = some ⟨false, [.string ByteArray.empty], [], none, none, true⟩ := rfl
theorem Th_Sint : Th 38 = some ⟨false, [.slice none 0 0], [], some (3, .int, 8), none, false⟩ := rfl
theorem Th_SSint : Th 26 = some ⟨false, [.slice none 0 0], [], some (38, (.list .int), 24), none, false⟩ := rfl
theorem Th_Sbool : Th 127 = some ⟨false, [.slice none 0 0], [], some (4, .bool, 1), none, false⟩ := rfl
theorem Th_implGroup : Th 29 = some ⟨true, [.int .i64 0, .int .i64 0, .int .i64 0], [(0, 1, false), (1, 1, false), (2, 1, false)], none, none, false⟩ := rfl
theorem Th_implProof : Th 67 = some ⟨true, [.slice none 0 0, .slice none 0 0, .slice none 0 0], [(0, 1, false), (1, 1, false), (2, 1, false)], none, none, false⟩ := rfl
theorem Th_implEqualLog : Th 181 = some ⟨true, [.int .i64 0, .int .i64 0, .int .i64 0, .int .i64 0], [(0, 1, false), (1, 1, false), (2, 1, false), (3, 1, false)], none, none, false⟩ := rfl
theorem Th_implDealing : Th 81 = some ⟨true, [.slice none 0 0, .slice none 0 0], [(0, 1, false), (1, 1, false)], none, none, false⟩ := rfl
theorem Th_implKeyGen : Th 55 = some ⟨true, [.slice none 0 0, .int .i64 0, .slice none 0 0, .slice none 0 0], [(0, 1, false), (1, 1, false), (2, 1, false), (3, 1, false)], none, none, false⟩ := rfl
theorem Th_implFault : Th 129 = some ⟨true, [.int .i64 0, .int .i64 0, .int .i64 0, .bool false], [(0, 1, false), (1, 1, false), (2, 1, false), (3, 1, false)], none, none, false⟩ := rfl
theorem Th_implCipher : Th 92 = some ⟨true, [.int .i64 0, .int .i64 0], [(0, 1, false), (1, 1, false)], none, none, false⟩ := rfl
theorem Th_implPartial : Th 89 = some ⟨true, [.int .i64 0, .int .i64 0, .slice none 0 0, .slice none 0 0, .slice none 0 0], [(0, 1, false), (1, 1, false), (2, 3, true)], none, none, false⟩ := rfl
theorem Th_implSDealing : Th 31 = some ⟨false, [.slice none 0 0], [], some (81, (.pair (.list .int) (.list .int)), 48), none, false⟩ := rfl
theorem Th_implSFault : Th 49 = some ⟨false, [.slice none 0 0], [], some (129, (.pair .int (.pair .int (.pair .int .bool))), 32), none, false⟩ := rfl
theorem Th_implSCipher : Th 175 = some ⟨false, [.slice none 0 0], [], some (92, (.pair .int .int), 16), none, false⟩ := rfl
theorem Th_implSPartial : Th 103 = some ⟨false, [.slice none 0 0], [], some (89, (.pair .int (.pair .int (.pair (.list .int) (.pair (.list .int) (.list .int))))), 88), none, false⟩ := rfl
theorem Th_lawsGroup : Th 23 = some ⟨true, [.int .i64 0, .int .i64 0, .int .i64 0], [(0, 1, false), (1, 1, false), (2, 1, false)], none, none, false⟩ := rfl
theorem Th_lawsProof : Th 76 = some ⟨true, [.slice none 0 0, .slice none 0 0, .slice none 0 0], [(0, 1, false), (1, 1, false), (2, 1, false)], none, none, false⟩ := rfl
theorem Th_lawsDealing : Th 75 = some ⟨true, [.slice none 0 0, .slice none 0 0], [(0, 1, false), (1, 1, false)], none, none, false⟩ := rfl
theorem Th_lawsKeyGen : Th 60 = some ⟨true, [.slice none 0 0, .int .i64 0, .slice none 0 0, .slice none 0 0], [(0, 1, false), (1, 1, false), (2, 1, false), (3, 1, false)], none, none, false⟩ := rfl
theorem Th_lawsFault : Th 132 = some ⟨true, [.int .i64 0, .int .i64 0, .int .i64 0, .bool false], [(0, 1, false), (1, 1, false), (2, 1, false), (3, 1, false)], none, none, false⟩ := rfl
theorem Th_lawsCipher : Th 87 = some ⟨true, [.int .i64 0, .int .i64 0], [(0, 1, false), (1, 1, false)], none, none, false⟩ := rfl
theorem Th_lawsPartial : Th 98 = some ⟨true, [.int .i64 0, .int .i64 0, .slice none 0 0, .slice none 0 0, .slice none 0 0], [(0, 1, false), (1, 1, false), (2, 3, true)], none, none, false⟩ := rfl
theorem Th_lawsSDealing : Th 24 = some ⟨false, [.slice none 0 0], [], some (75, (.pair (.list .int) (.list .int)), 48), none, false⟩ := rfl
theorem Th_lawsSFault : Th 45 = some ⟨false, [.slice none 0 0], [], some (132, (.pair .int (.pair .int (.pair .int .bool))), 32), none, false⟩ := rfl
theorem Th_lawsSPartial : Th 109 = some ⟨false, [.slice none 0 0], [], some (98, (.pair .int (.pair .int (.pair (.list .int) (.pair (.list .int) (.list .int))))), 88), none, false⟩ := rfl
theorem TT_ok : AllOk Try.prog TT.dropLast := by
  unfold TT
  refine ⟨--- int 
    (ok_int : TI.ok Try.prog 3 _), 
    (ok_bool : TI.ok Try.prog 4 _), 
    (ok_string : TI.ok Try.prog 9 _), 
    (ok_uint : TI.ok Try.prog 206 _), 
    (ok_Sint : TI.ok Try.prog 38 _), 
    (ok_SSint : TI.ok Try.prog 26 _), 
    (ok_Sbool : TI.ok Try.prog 127 _), 
    (ok_implGroup : TI.ok Try.prog 29 _), 
    (ok_implProof : TI.ok Try.prog 67 _), 
    (ok_implEqualLog : TI.ok Try.prog 181 _), 
    (ok_implDealing : TI.ok Try.prog 81 _), 
    (ok_implKeyGen : TI.ok Try.prog 55 _), 
    (ok_implFault : TI.ok Try.prog 129 _), 
    (ok_implCipher : TI.ok Try.prog 92 _), 
    (ok_implPartial : TI.ok Try.prog 89 _), 
    (ok_implSDealing : TI.ok Try.prog 31 _), 
    (ok_implSFault : TI.ok Try.prog 49 _), 
    (ok_implSCipher : TI.ok Try.prog 175 _), 
    (ok_implSPartial : TI.ok Try.prog 103 _), 
    (ok_lawsGroup : TI.ok Try.prog 23 _), 
    (ok_lawsProof : TI.ok Try.prog 76 _), 
    (ok_lawsDealing : TI.ok Try.prog 75 _), 
    (ok_lawsKeyGen : TI.ok Try.prog 60 _), 
    (ok_lawsFault : TI.ok Try.prog 132 _), 
    (ok_lawsCipher : TI.ok Try.prog 87 _), 
    (ok_lawsPartial : TI.ok Try.prog 98 _), 
    (ok_lawsSDealing : TI.ok Try.prog 24 _), 
    (ok_lawsSFault : TI.ok Try.prog 45 _), 
    (ok_lawsSPartial : TI.ok Try.prog 109 _), 
    trivial⟩
theorem Th_ok : ∀ t ti, Th t = some ti → ti.ok Try.prog t := TT_ok.get
end Go.Proofs.Ytlggpehioflbdaa
