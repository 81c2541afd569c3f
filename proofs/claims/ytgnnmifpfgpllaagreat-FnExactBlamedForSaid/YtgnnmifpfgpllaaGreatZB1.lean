import Derived.Test.YtgnnmifpfgpllaaGreatZAD
import Derived.Test.YtgnnmifpfgpllaaGreatChecked
/- What is known of the types. -/
set_option linter.all false
set_option linter.unusedVariables false
set_option linter.unusedSimpArgs false
namespace Go.Proofs.YtgnnmifpfgpllaaGreat
open Go.RowKit
def zeroOf (P : Program) (t : TypeId) : TypeInfo × Value := match P.info? t with
  | some i => (i, i.zero.getD undef)
  | none => (default, undef)
def AllOk (P : Program) : List (Nat × TI) → Prop
  | [] => True
  | (t, ti) :: l => ti.ok P t ∧ AllOk P l
theorem AllOk.get {P : Program} : ∀ {l : List (Nat × TI)}, AllOk P l → ∀ t ti, look l t = some ti → ti.ok P t
  | [], _, t, ti, h => by cases h
  | (k, x) :: l, hl, t, ti, h => by
    simp only [look] at h
    split at h
    · rename_i e; subst e; cases h; exact hl.1
    · exact AllOk.get hl.2 t ti h
theorem ok_int : TI.ok Tryz.prog 3 ⟨false, [.int .i64 0], [], none, (some .i64), false⟩ :=
  { info := ⟨_, .int .i64 0, (by kernel_rfl : Tryz.prog.info? 3 = some (zeroOf Tryz.prog 3).1), (by kernel_rfl), rfl, (by kernel_rfl)⟩
    und := ⟨_, Tryz.underlying3⟩
    isAgg := fun w => by simp [isAgg, run_underlying Tryz.underlying3]
    flds := fun h => absurd rfl h
    bld := fun h => by simp at h
    el := fun e y b h => by cases h
    str := fun h => by first | exact Tryz.underlying3 | cases h
    bl := fun h => by first | exact Tryz.underlying3 | (simp [TI.bl] at h; done)
    ik := fun k h => by first | (cases h; exact ⟨by simp, Tryz.underlying3⟩) | cases h }
theorem ok_bool : TI.ok Tryz.prog 4 ⟨false, [.bool false], [], none, none, false⟩ :=
  { info := ⟨_, .bool false, (by kernel_rfl : Tryz.prog.info? 4 = some (zeroOf Tryz.prog 4).1), (by kernel_rfl), rfl, (by kernel_rfl)⟩
    und := ⟨_, Tryz.underlying4⟩
    isAgg := fun w => by simp [isAgg, run_underlying Tryz.underlying4]
    flds := fun h => absurd rfl h
    bld := fun h => by simp at h
    el := fun e y b h => by cases h
    str := fun h => by first | exact Tryz.underlying4 | cases h
    bl := fun h => by first | exact Tryz.underlying4 | (simp [TI.bl] at h; done)
    ik := fun k h => by first | (cases h; exact ⟨by simp, Tryz.underlying4⟩) | cases h }
theorem ok_string : TI.ok Tryz.prog 9 ⟨false, [.string ByteArray.empty], [], none, none, true⟩ :=
  { info := ⟨_, .string ByteArray.empty, (by kernel_rfl : Tryz.prog.info? 9 = some (zeroOf Tryz.prog 9).1), (by kernel_rfl), rfl, (by kernel_rfl)⟩
    und := ⟨_, Tryz.underlying9⟩
    isAgg := fun w => by simp [isAgg, run_underlying Tryz.underlying9]
    flds := fun h => absurd rfl h
    bld := fun h => by simp at h
    el := fun e y b h => by cases h
    str := fun h => by first | exact Tryz.underlying9 | cases h
    bl := fun h => by first | exact Tryz.underlying9 | (simp [TI.bl] at h; done)
    ik := fun k h => by first | (cases h; exact ⟨by simp, Tryz.underlying9⟩) | cases h }
theorem ok_uint : TI.ok Tryz.prog 98 ⟨false, [.int .u64 0], [], none, (some .u64), false⟩ :=
  { info := ⟨_, .int .u64 0, (by kernel_rfl : Tryz.prog.info? 98 = some (zeroOf Tryz.prog 98).1), (by kernel_rfl), rfl, (by kernel_rfl)⟩
    und := ⟨_, Tryz.underlying98⟩
    isAgg := fun w => by simp [isAgg, run_underlying Tryz.underlying98]
    flds := fun h => absurd rfl h
    bld := fun h => by simp at h
    el := fun e y b h => by cases h
    str := fun h => by first | exact Tryz.underlying98 | cases h
    bl := fun h => by first | exact Tryz.underlying98 | (simp [TI.bl] at h; done)
    ik := fun k h => by first | (cases h; exact ⟨by simp, Tryz.underlying98⟩) | cases h }
theorem ok_Sint : TI.ok Tryz.prog 24 ⟨false, [.slice none 0 0], [], some (3, .int, 8), none, false⟩ :=
  { info := ⟨_, .slice none 0 0, (by kernel_rfl : Tryz.prog.info? 24 = some (zeroOf Tryz.prog 24).1), (by kernel_rfl), rfl, (by kernel_rfl)⟩
    und := ⟨_, Tryz.underlying24⟩
    isAgg := fun w => by simp [isAgg, run_underlying Tryz.underlying24]
    flds := fun h => absurd rfl h
    bld := fun h => by simp at h
    el := fun e y b h => by
      simp only [Option.some.injEq, Prod.mk.injEq] at h
      obtain ⟨rfl, rfl, rfl⟩ := h
      exact ⟨Tryz.underlying24, _, (zeroOf Tryz.prog 3).2, (by kernel_rfl : Tryz.prog.info? 3 = some (zeroOf Tryz.prog 3).1), (by kernel_rfl), (by kernel_rfl), (by kernel_rfl), (by kernel_rfl), (by decide), fun W lo => by
        rw [show (zeroOf Tryz.prog 3).2.cells.toList = [.int .i64 0] from by kernel_rfl]
        exact ⟨rfl, rfl⟩⟩
    str := fun h => by cases h
    bl := fun h => by simp [TI.bl] at h
    ik := fun k h => by cases h }
theorem ok_SSint : TI.ok Tryz.prog 95 ⟨false, [.slice none 0 0], [], some (24, (.list .int), 24), none, false⟩ :=
  { info := ⟨_, .slice none 0 0, (by kernel_rfl : Tryz.prog.info? 95 = some (zeroOf Tryz.prog 95).1), (by kernel_rfl), rfl, (by kernel_rfl)⟩
    und := ⟨_, Tryz.underlying95⟩
    isAgg := fun w => by simp [isAgg, run_underlying Tryz.underlying95]
    flds := fun h => absurd rfl h
    bld := fun h => by simp at h
    el := fun e y b h => by
      simp only [Option.some.injEq, Prod.mk.injEq] at h
      obtain ⟨rfl, rfl, rfl⟩ := h
      exact ⟨Tryz.underlying95, _, (zeroOf Tryz.prog 24).2, (by kernel_rfl : Tryz.prog.info? 24 = some (zeroOf Tryz.prog 24).1), (by kernel_rfl), (by kernel_rfl), (by kernel_rfl), (by kernel_rfl), (by decide), fun W lo => by
        rw [show (zeroOf Tryz.prog 24).2.cells.toList = [.slice none 0 0] from by kernel_rfl]
        exact ⟨_, 0, rfl, [], [], rfl, rfl, fun k x u b h => by simp [Ty.dflt] at h, World.ownsRow_nil W lo 0 _, rfl⟩⟩
    str := fun h => by cases h
    bl := fun h => by simp [TI.bl] at h
    ik := fun k h => by cases h }
theorem ok_implGroup : TI.ok Tryz.prog 31 ⟨true, [.int .i64 0, .int .i64 0, .int .i64 0], [(0, 1, false), (1, 1, false), (2, 1, false)], none, none, false⟩ :=
  { info := ⟨_, .agg #[.int .i64 0, .int .i64 0, .int .i64 0], (by kernel_rfl : Tryz.prog.info? 31 = some (zeroOf Tryz.prog 31).1), (by kernel_rfl), rfl, (by kernel_rfl)⟩
    und := ⟨_, Tryz.underlying31⟩
    isAgg := fun w => by simp [isAgg, run_underlying Tryz.underlying31]
    flds := fun _ => ⟨_, Tryz.underlying31, (by kernel_rfl), fun k f g hf hg => by
      rcases k with _ | _ | _ | _
      · simp at hf hg; subst hf hg; exact ⟨by decide, fun w => by simp [isAgg, run_underlying Tryz.underlying3]⟩
      · simp at hf hg; subst hf hg; exact ⟨by decide, fun w => by simp [isAgg, run_underlying Tryz.underlying3]⟩
      · simp at hf hg; subst hf hg; exact ⟨by decide, fun w => by simp [isAgg, run_underlying Tryz.underlying3]⟩
      · simp at hf⟩
    bld := fun _ ps cells w h => by
      have e : (fun (i : Nat) => ([(0, 1), (1, 1), (2, 1)] : List (Nat × Nat))[i]?) = (fun (i : Nat) => (([(0, 1, false), (1, 1, false), (2, 1, false)] : List (Nat × Nat × Bool))[i]?).map fun (g : Nat × Nat × Bool) => (g.1, g.2.1)) := by
        funext i
        rcases i with _ | _ | _ | _ <;> simp
      have hi := (by kernel_rfl : Tryz.prog.info? 31 = some (zeroOf Tryz.prog 31).1)
      have hz := (by kernel_rfl : (zeroOf Tryz.prog 31).1.zero = some (.agg #[.int .i64 0, .int .i64 0, .int .i64 0]))
      have h0 := (by kernel_rfl : Tryz.prog.info? 3 = some (zeroOf Tryz.prog 3).1)
      have s0 := (by kernel_rfl : (zeroOf Tryz.prog 3).1.size = 1)
      have h' : Instr.fill (fun (i : Nat) => ([(0, 1), (1, 1), (2, 1)] : List (Nat × Nat))[i]?) #[.int .i64 0, .int .i64 0, .int .i64 0] ps = some cells := by rw [e]; exact h
      simp [Instr.build, zeroValue, typeInfo, hi, hz, run_underlying Tryz.underlying31, sizeOf, Value.cells, h0, s0]
      rw [h']
      rfl
    el := fun e y b h => by cases h
    str := fun h => by cases h
    bl := fun h => by simp [TI.bl] at h
    ik := fun k h => by cases h }
theorem ok_implProof : TI.ok Tryz.prog 66 ⟨true, [.slice none 0 0, .slice none 0 0, .slice none 0 0], [(0, 1, false), (1, 1, false), (2, 1, false)], none, none, false⟩ :=
  { info := ⟨_, .agg #[.slice none 0 0, .slice none 0 0, .slice none 0 0], (by kernel_rfl : Tryz.prog.info? 66 = some (zeroOf Tryz.prog 66).1), (by kernel_rfl), rfl, (by kernel_rfl)⟩
    und := ⟨_, Tryz.underlying66⟩
    isAgg := fun w => by simp [isAgg, run_underlying Tryz.underlying66]
    flds := fun _ => ⟨_, Tryz.underlying66, (by kernel_rfl), fun k f g hf hg => by
      rcases k with _ | _ | _ | _
      · simp at hf hg; subst hf hg; exact ⟨by decide, fun w => by simp [isAgg, run_underlying Tryz.underlying24]⟩
      · simp at hf hg; subst hf hg; exact ⟨by decide, fun w => by simp [isAgg, run_underlying Tryz.underlying24]⟩
      · simp at hf hg; subst hf hg; exact ⟨by decide, fun w => by simp [isAgg, run_underlying Tryz.underlying24]⟩
      · simp at hf⟩
    bld := fun _ ps cells w h => by
      have e : (fun (i : Nat) => ([(0, 1), (1, 1), (2, 1)] : List (Nat × Nat))[i]?) = (fun (i : Nat) => (([(0, 1, false), (1, 1, false), (2, 1, false)] : List (Nat × Nat × Bool))[i]?).map fun (g : Nat × Nat × Bool) => (g.1, g.2.1)) := by
        funext i
        rcases i with _ | _ | _ | _ <;> simp
      have hi := (by kernel_rfl : Tryz.prog.info? 66 = some (zeroOf Tryz.prog 66).1)
      have hz := (by kernel_rfl : (zeroOf Tryz.prog 66).1.zero = some (.agg #[.slice none 0 0, .slice none 0 0, .slice none 0 0]))
      have h0 := (by kernel_rfl : Tryz.prog.info? 24 = some (zeroOf Tryz.prog 24).1)
      have s0 := (by kernel_rfl : (zeroOf Tryz.prog 24).1.size = 1)
      have h' : Instr.fill (fun (i : Nat) => ([(0, 1), (1, 1), (2, 1)] : List (Nat × Nat))[i]?) #[.slice none 0 0, .slice none 0 0, .slice none 0 0] ps = some cells := by rw [e]; exact h
      simp [Instr.build, zeroValue, typeInfo, hi, hz, run_underlying Tryz.underlying66, sizeOf, Value.cells, h0, s0]
      rw [h']
      rfl
    el := fun e y b h => by cases h
    str := fun h => by cases h
    bl := fun h => by simp [TI.bl] at h
    ik := fun k h => by cases h }
theorem ok_implEqualLog : TI.ok Tryz.prog 91 ⟨true, [.int .i64 0, .int .i64 0, .int .i64 0, .int .i64 0], [(0, 1, false), (1, 1, false), (2, 1, false), (3, 1, false)], none, none, false⟩ :=
  { info := ⟨_, .agg #[.int .i64 0, .int .i64 0, .int .i64 0, .int .i64 0], (by kernel_rfl : Tryz.prog.info? 91 = some (zeroOf Tryz.prog 91).1), (by kernel_rfl), rfl, (by kernel_rfl)⟩
    und := ⟨_, Tryz.underlying91⟩
    isAgg := fun w => by simp [isAgg, run_underlying Tryz.underlying91]
    flds := fun _ => ⟨_, Tryz.underlying91, (by kernel_rfl), fun k f g hf hg => by
      rcases k with _ | _ | _ | _ | _
      · simp at hf hg; subst hf hg; exact ⟨by decide, fun w => by simp [isAgg, run_underlying Tryz.underlying3]⟩
      · simp at hf hg; subst hf hg; exact ⟨by decide, fun w => by simp [isAgg, run_underlying Tryz.underlying3]⟩
      · simp at hf hg; subst hf hg; exact ⟨by decide, fun w => by simp [isAgg, run_underlying Tryz.underlying3]⟩
      · simp at hf hg; subst hf hg; exact ⟨by decide, fun w => by simp [isAgg, run_underlying Tryz.underlying3]⟩
      · simp at hf⟩
    bld := fun _ ps cells w h => by
      have e : (fun (i : Nat) => ([(0, 1), (1, 1), (2, 1), (3, 1)] : List (Nat × Nat))[i]?) = (fun (i : Nat) => (([(0, 1, false), (1, 1, false), (2, 1, false), (3, 1, false)] : List (Nat × Nat × Bool))[i]?).map fun (g : Nat × Nat × Bool) => (g.1, g.2.1)) := by
        funext i
        rcases i with _ | _ | _ | _ | _ <;> simp
      have hi := (by kernel_rfl : Tryz.prog.info? 91 = some (zeroOf Tryz.prog 91).1)
      have hz := (by kernel_rfl : (zeroOf Tryz.prog 91).1.zero = some (.agg #[.int .i64 0, .int .i64 0, .int .i64 0, .int .i64 0]))
      have h0 := (by kernel_rfl : Tryz.prog.info? 3 = some (zeroOf Tryz.prog 3).1)
      have s0 := (by kernel_rfl : (zeroOf Tryz.prog 3).1.size = 1)
      have h' : Instr.fill (fun (i : Nat) => ([(0, 1), (1, 1), (2, 1), (3, 1)] : List (Nat × Nat))[i]?) #[.int .i64 0, .int .i64 0, .int .i64 0, .int .i64 0] ps = some cells := by rw [e]; exact h
      simp [Instr.build, zeroValue, typeInfo, hi, hz, run_underlying Tryz.underlying91, sizeOf, Value.cells, h0, s0]
      rw [h']
      rfl
    el := fun e y b h => by cases h
    str := fun h => by cases h
    bl := fun h => by simp [TI.bl] at h
    ik := fun k h => by cases h }
theorem ok_implCipher : TI.ok Tryz.prog 34 ⟨true, [.int .i64 0, .int .i64 0], [(0, 1, false), (1, 1, false)], none, none, false⟩ :=
  { info := ⟨_, .agg #[.int .i64 0, .int .i64 0], (by kernel_rfl : Tryz.prog.info? 34 = some (zeroOf Tryz.prog 34).1), (by kernel_rfl), rfl, (by kernel_rfl)⟩
    und := ⟨_, Tryz.underlying34⟩
    isAgg := fun w => by simp [isAgg, run_underlying Tryz.underlying34]
    flds := fun _ => ⟨_, Tryz.underlying34, (by kernel_rfl), fun k f g hf hg => by
      rcases k with _ | _ | _
      · simp at hf hg; subst hf hg; exact ⟨by decide, fun w => by simp [isAgg, run_underlying Tryz.underlying3]⟩
      · simp at hf hg; subst hf hg; exact ⟨by decide, fun w => by simp [isAgg, run_underlying Tryz.underlying3]⟩
      · simp at hf⟩
    bld := fun _ ps cells w h => by
      have e : (fun (i : Nat) => ([(0, 1), (1, 1)] : List (Nat × Nat))[i]?) = (fun (i : Nat) => (([(0, 1, false), (1, 1, false)] : List (Nat × Nat × Bool))[i]?).map fun (g : Nat × Nat × Bool) => (g.1, g.2.1)) := by
        funext i
        rcases i with _ | _ | _ <;> simp
      have hi := (by kernel_rfl : Tryz.prog.info? 34 = some (zeroOf Tryz.prog 34).1)
      have hz := (by kernel_rfl : (zeroOf Tryz.prog 34).1.zero = some (.agg #[.int .i64 0, .int .i64 0]))
      have h0 := (by kernel_rfl : Tryz.prog.info? 3 = some (zeroOf Tryz.prog 3).1)
      have s0 := (by kernel_rfl : (zeroOf Tryz.prog 3).1.size = 1)
      have h' : Instr.fill (fun (i : Nat) => ([(0, 1), (1, 1)] : List (Nat × Nat))[i]?) #[.int .i64 0, .int .i64 0] ps = some cells := by rw [e]; exact h
      simp [Instr.build, zeroValue, typeInfo, hi, hz, run_underlying Tryz.underlying34, sizeOf, Value.cells, h0, s0]
      rw [h']
      rfl
    el := fun e y b h => by cases h
    str := fun h => by cases h
    bl := fun h => by simp [TI.bl] at h
    ik := fun k h => by cases h }
theorem ok_implPartial : TI.ok Tryz.prog 68 ⟨true, [.int .i64 0, .int .i64 0, .slice none 0 0, .slice none 0 0, .slice none 0 0], [(0, 1, false), (1, 1, false), (2, 3, true)], none, none, false⟩ :=
  { info := ⟨_, .agg #[.int .i64 0, .int .i64 0, .slice none 0 0, .slice none 0 0, .slice none 0 0], (by kernel_rfl : Tryz.prog.info? 68 = some (zeroOf Tryz.prog 68).1), (by kernel_rfl), rfl, (by kernel_rfl)⟩
    und := ⟨_, Tryz.underlying68⟩
    isAgg := fun w => by simp [isAgg, run_underlying Tryz.underlying68]
    flds := fun _ => ⟨_, Tryz.underlying68, (by kernel_rfl), fun k f g hf hg => by
      rcases k with _ | _ | _ | _
      · simp at hf hg; subst hf hg; exact ⟨by decide, fun w => by simp [isAgg, run_underlying Tryz.underlying3]⟩
      · simp at hf hg; subst hf hg; exact ⟨by decide, fun w => by simp [isAgg, run_underlying Tryz.underlying3]⟩
      · simp at hf hg; subst hf hg; exact ⟨by decide, fun w => by simp [isAgg, run_underlying Tryz.underlying66]⟩
      · simp at hf⟩
    bld := fun _ ps cells w h => by
      have e : (fun (i : Nat) => ([(0, 1), (1, 1), (2, 3)] : List (Nat × Nat))[i]?) = (fun (i : Nat) => (([(0, 1, false), (1, 1, false), (2, 3, true)] : List (Nat × Nat × Bool))[i]?).map fun (g : Nat × Nat × Bool) => (g.1, g.2.1)) := by
        funext i
        rcases i with _ | _ | _ | _ <;> simp
      have hi := (by kernel_rfl : Tryz.prog.info? 68 = some (zeroOf Tryz.prog 68).1)
      have hz := (by kernel_rfl : (zeroOf Tryz.prog 68).1.zero = some (.agg #[.int .i64 0, .int .i64 0, .slice none 0 0, .slice none 0 0, .slice none 0 0]))
      have h0 := (by kernel_rfl : Tryz.prog.info? 3 = some (zeroOf Tryz.prog 3).1)
      have s0 := (by kernel_rfl : (zeroOf Tryz.prog 3).1.size = 1)
      have h1 := (by kernel_rfl : Tryz.prog.info? 66 = some (zeroOf Tryz.prog 66).1)
      have s1 := (by kernel_rfl : (zeroOf Tryz.prog 66).1.size = 3)
      have h' : Instr.fill (fun (i : Nat) => ([(0, 1), (1, 1), (2, 3)] : List (Nat × Nat))[i]?) #[.int .i64 0, .int .i64 0, .slice none 0 0, .slice none 0 0, .slice none 0 0] ps = some cells := by rw [e]; exact h
      simp [Instr.build, zeroValue, typeInfo, hi, hz, run_underlying Tryz.underlying68, sizeOf, Value.cells, h0, s0, h1, s1]
      rw [h']
      rfl
    el := fun e y b h => by cases h
    str := fun h => by cases h
    bl := fun h => by simp [TI.bl] at h
    ik := fun k h => by cases h }
theorem ok_implSCipher : TI.ok Tryz.prog 51 ⟨false, [.slice none 0 0], [], some (34, (.pair .int .int), 16), none, false⟩ :=
  { info := ⟨_, .slice none 0 0, (by kernel_rfl : Tryz.prog.info? 51 = some (zeroOf Tryz.prog 51).1), (by kernel_rfl), rfl, (by kernel_rfl)⟩
    und := ⟨_, Tryz.underlying51⟩
    isAgg := fun w => by simp [isAgg, run_underlying Tryz.underlying51]
    flds := fun h => absurd rfl h
    bld := fun h => by simp at h
    el := fun e y b h => by
      simp only [Option.some.injEq, Prod.mk.injEq] at h
      obtain ⟨rfl, rfl, rfl⟩ := h
      exact ⟨Tryz.underlying51, _, (zeroOf Tryz.prog 34).2, (by kernel_rfl : Tryz.prog.info? 34 = some (zeroOf Tryz.prog 34).1), (by kernel_rfl), (by kernel_rfl), (by kernel_rfl), (by kernel_rfl), (by decide), fun W lo => by
        rw [show (zeroOf Tryz.prog 34).2.cells.toList = [.int .i64 0, .int .i64 0] from by kernel_rfl]
        exact ⟨[.int .i64 0], [.int .i64 0], [], [], rfl, rfl, ⟨rfl, rfl⟩, ⟨rfl, rfl⟩⟩⟩
    str := fun h => by cases h
    bl := fun h => by simp [TI.bl] at h
    ik := fun k h => by cases h }
theorem ok_implSPartial : TI.ok Tryz.prog 36 ⟨false, [.slice none 0 0], [], some (68, (.pair .int (.pair .int (.pair (.list .int) (.pair (.list .int) (.list .int))))), 88), none, false⟩ :=
  { info := ⟨_, .slice none 0 0, (by kernel_rfl : Tryz.prog.info? 36 = some (zeroOf Tryz.prog 36).1), (by kernel_rfl), rfl, (by kernel_rfl)⟩
    und := ⟨_, Tryz.underlying36⟩
    isAgg := fun w => by simp [isAgg, run_underlying Tryz.underlying36]
    flds := fun h => absurd rfl h
    bld := fun h => by simp at h
    el := fun e y b h => by
      simp only [Option.some.injEq, Prod.mk.injEq] at h
      obtain ⟨rfl, rfl, rfl⟩ := h
      exact ⟨Tryz.underlying36, _, (zeroOf Tryz.prog 68).2, (by kernel_rfl : Tryz.prog.info? 68 = some (zeroOf Tryz.prog 68).1), (by kernel_rfl), (by kernel_rfl), (by kernel_rfl), (by kernel_rfl), (by decide), fun W lo => by
        rw [show (zeroOf Tryz.prog 68).2.cells.toList = [.int .i64 0, .int .i64 0, .slice none 0 0, .slice none 0 0, .slice none 0 0] from by kernel_rfl]
        exact ⟨[.int .i64 0], [.int .i64 0, .slice none 0 0, .slice none 0 0, .slice none 0 0], [], [], rfl, rfl, ⟨rfl, rfl⟩, ⟨[.int .i64 0], [.slice none 0 0, .slice none 0 0, .slice none 0 0], [], [], rfl, rfl, ⟨rfl, rfl⟩, ⟨[.slice none 0 0], [.slice none 0 0, .slice none 0 0], [], [], rfl, rfl, ⟨_, 0, rfl, [], [], rfl, rfl, fun k x u b h => by simp [Ty.dflt] at h, World.ownsRow_nil W lo 0 _, rfl⟩, ⟨[.slice none 0 0], [.slice none 0 0], [], [], rfl, rfl, ⟨_, 0, rfl, [], [], rfl, rfl, fun k x u b h => by simp [Ty.dflt] at h, World.ownsRow_nil W lo 0 _, rfl⟩, ⟨_, 0, rfl, [], [], rfl, rfl, fun k x u b h => by simp [Ty.dflt] at h, World.ownsRow_nil W lo 0 _, rfl⟩⟩⟩⟩⟩⟩
    str := fun h => by cases h
    bl := fun h => by simp [TI.bl] at h
    ik := fun k h => by cases h }
theorem ok_implSSPartial : TI.ok Tryz.prog 53 ⟨false, [.slice none 0 0], [], some (36, (.list (.pair .int (.pair .int (.pair (.list .int) (.pair (.list .int) (.list .int)))))), 24), none, false⟩ :=
  { info := ⟨_, .slice none 0 0, (by kernel_rfl : Tryz.prog.info? 53 = some (zeroOf Tryz.prog 53).1), (by kernel_rfl), rfl, (by kernel_rfl)⟩
    und := ⟨_, Tryz.underlying53⟩
    isAgg := fun w => by simp [isAgg, run_underlying Tryz.underlying53]
    flds := fun h => absurd rfl h
    bld := fun h => by simp at h
    el := fun e y b h => by
      simp only [Option.some.injEq, Prod.mk.injEq] at h
      obtain ⟨rfl, rfl, rfl⟩ := h
      exact ⟨Tryz.underlying53, _, (zeroOf Tryz.prog 36).2, (by kernel_rfl : Tryz.prog.info? 36 = some (zeroOf Tryz.prog 36).1), (by kernel_rfl), (by kernel_rfl), (by kernel_rfl), (by kernel_rfl), (by decide), fun W lo => by
        rw [show (zeroOf Tryz.prog 36).2.cells.toList = [.slice none 0 0] from by kernel_rfl]
        exact ⟨_, 0, rfl, [], [], rfl, rfl, fun k x u b h => by simp [Ty.dflt] at h, World.ownsRow_nil W lo 0 _, rfl⟩⟩
    str := fun h => by cases h
    bl := fun h => by simp [TI.bl] at h
    ik := fun k h => by cases h }
theorem ok_lawsGroup : TI.ok Tryz.prog 23 ⟨true, [.int .i64 0, .int .i64 0, .int .i64 0], [(0, 1, false), (1, 1, false), (2, 1, false)], none, none, false⟩ :=
  { info := ⟨_, .agg #[.int .i64 0, .int .i64 0, .int .i64 0], (by kernel_rfl : Tryz.prog.info? 23 = some (zeroOf Tryz.prog 23).1), (by kernel_rfl), rfl, (by kernel_rfl)⟩
    und := ⟨_, Tryz.underlying23⟩
    isAgg := fun w => by simp [isAgg, run_underlying Tryz.underlying23]
    flds := fun _ => ⟨_, Tryz.underlying23, (by kernel_rfl), fun k f g hf hg => by
      rcases k with _ | _ | _ | _
      · simp at hf hg; subst hf hg; exact ⟨by decide, fun w => by simp [isAgg, run_underlying Tryz.underlying3]⟩
      · simp at hf hg; subst hf hg; exact ⟨by decide, fun w => by simp [isAgg, run_underlying Tryz.underlying3]⟩
      · simp at hf hg; subst hf hg; exact ⟨by decide, fun w => by simp [isAgg, run_underlying Tryz.underlying3]⟩
      · simp at hf⟩
    bld := fun _ ps cells w h => by
      have e : (fun (i : Nat) => ([(0, 1), (1, 1), (2, 1)] : List (Nat × Nat))[i]?) = (fun (i : Nat) => (([(0, 1, false), (1, 1, false), (2, 1, false)] : List (Nat × Nat × Bool))[i]?).map fun (g : Nat × Nat × Bool) => (g.1, g.2.1)) := by
        funext i
        rcases i with _ | _ | _ | _ <;> simp
      have hi := (by kernel_rfl : Tryz.prog.info? 23 = some (zeroOf Tryz.prog 23).1)
      have hz := (by kernel_rfl : (zeroOf Tryz.prog 23).1.zero = some (.agg #[.int .i64 0, .int .i64 0, .int .i64 0]))
      have h0 := (by kernel_rfl : Tryz.prog.info? 3 = some (zeroOf Tryz.prog 3).1)
      have s0 := (by kernel_rfl : (zeroOf Tryz.prog 3).1.size = 1)
      have h' : Instr.fill (fun (i : Nat) => ([(0, 1), (1, 1), (2, 1)] : List (Nat × Nat))[i]?) #[.int .i64 0, .int .i64 0, .int .i64 0] ps = some cells := by rw [e]; exact h
      simp [Instr.build, zeroValue, typeInfo, hi, hz, run_underlying Tryz.underlying23, sizeOf, Value.cells, h0, s0]
      rw [h']
      rfl
    el := fun e y b h => by cases h
    str := fun h => by cases h
    bl := fun h => by simp [TI.bl] at h
    ik := fun k h => by cases h }
theorem ok_lawsProof : TI.ok Tryz.prog 62 ⟨true, [.slice none 0 0, .slice none 0 0, .slice none 0 0], [(0, 1, false), (1, 1, false), (2, 1, false)], none, none, false⟩ :=
  { info := ⟨_, .agg #[.slice none 0 0, .slice none 0 0, .slice none 0 0], (by kernel_rfl : Tryz.prog.info? 62 = some (zeroOf Tryz.prog 62).1), (by kernel_rfl), rfl, (by kernel_rfl)⟩
    und := ⟨_, Tryz.underlying62⟩
    isAgg := fun w => by simp [isAgg, run_underlying Tryz.underlying62]
    flds := fun _ => ⟨_, Tryz.underlying62, (by kernel_rfl), fun k f g hf hg => by
      rcases k with _ | _ | _ | _
      · simp at hf hg; subst hf hg; exact ⟨by decide, fun w => by simp [isAgg, run_underlying Tryz.underlying24]⟩
      · simp at hf hg; subst hf hg; exact ⟨by decide, fun w => by simp [isAgg, run_underlying Tryz.underlying24]⟩
      · simp at hf hg; subst hf hg; exact ⟨by decide, fun w => by simp [isAgg, run_underlying Tryz.underlying24]⟩
      · simp at hf⟩
    bld := fun _ ps cells w h => by
      have e : (fun (i : Nat) => ([(0, 1), (1, 1), (2, 1)] : List (Nat × Nat))[i]?) = (fun (i : Nat) => (([(0, 1, false), (1, 1, false), (2, 1, false)] : List (Nat × Nat × Bool))[i]?).map fun (g : Nat × Nat × Bool) => (g.1, g.2.1)) := by
        funext i
        rcases i with _ | _ | _ | _ <;> simp
      have hi := (by kernel_rfl : Tryz.prog.info? 62 = some (zeroOf Tryz.prog 62).1)
      have hz := (by kernel_rfl : (zeroOf Tryz.prog 62).1.zero = some (.agg #[.slice none 0 0, .slice none 0 0, .slice none 0 0]))
      have h0 := (by kernel_rfl : Tryz.prog.info? 24 = some (zeroOf Tryz.prog 24).1)
      have s0 := (by kernel_rfl : (zeroOf Tryz.prog 24).1.size = 1)
      have h' : Instr.fill (fun (i : Nat) => ([(0, 1), (1, 1), (2, 1)] : List (Nat × Nat))[i]?) #[.slice none 0 0, .slice none 0 0, .slice none 0 0] ps = some cells := by rw [e]; exact h
      simp [Instr.build, zeroValue, typeInfo, hi, hz, run_underlying Tryz.underlying62, sizeOf, Value.cells, h0, s0]
      rw [h']
      rfl
    el := fun e y b h => by cases h
    str := fun h => by cases h
    bl := fun h => by simp [TI.bl] at h
    ik := fun k h => by cases h }
theorem ok_lawsCipher : TI.ok Tryz.prog 26 ⟨true, [.int .i64 0, .int .i64 0], [(0, 1, false), (1, 1, false)], none, none, false⟩ :=
  { info := ⟨_, .agg #[.int .i64 0, .int .i64 0], (by kernel_rfl : Tryz.prog.info? 26 = some (zeroOf Tryz.prog 26).1), (by kernel_rfl), rfl, (by kernel_rfl)⟩
    und := ⟨_, Tryz.underlying26⟩
    isAgg := fun w => by simp [isAgg, run_underlying Tryz.underlying26]
    flds := fun _ => ⟨_, Tryz.underlying26, (by kernel_rfl), fun k f g hf hg => by
      rcases k with _ | _ | _
      · simp at hf hg; subst hf hg; exact ⟨by decide, fun w => by simp [isAgg, run_underlying Tryz.underlying3]⟩
      · simp at hf hg; subst hf hg; exact ⟨by decide, fun w => by simp [isAgg, run_underlying Tryz.underlying3]⟩
      · simp at hf⟩
    bld := fun _ ps cells w h => by
      have e : (fun (i : Nat) => ([(0, 1), (1, 1)] : List (Nat × Nat))[i]?) = (fun (i : Nat) => (([(0, 1, false), (1, 1, false)] : List (Nat × Nat × Bool))[i]?).map fun (g : Nat × Nat × Bool) => (g.1, g.2.1)) := by
        funext i
        rcases i with _ | _ | _ <;> simp
      have hi := (by kernel_rfl : Tryz.prog.info? 26 = some (zeroOf Tryz.prog 26).1)
      have hz := (by kernel_rfl : (zeroOf Tryz.prog 26).1.zero = some (.agg #[.int .i64 0, .int .i64 0]))
      have h0 := (by kernel_rfl : Tryz.prog.info? 3 = some (zeroOf Tryz.prog 3).1)
      have s0 := (by kernel_rfl : (zeroOf Tryz.prog 3).1.size = 1)
      have h' : Instr.fill (fun (i : Nat) => ([(0, 1), (1, 1)] : List (Nat × Nat))[i]?) #[.int .i64 0, .int .i64 0] ps = some cells := by rw [e]; exact h
      simp [Instr.build, zeroValue, typeInfo, hi, hz, run_underlying Tryz.underlying26, sizeOf, Value.cells, h0, s0]
      rw [h']
      rfl
    el := fun e y b h => by cases h
    str := fun h => by cases h
    bl := fun h => by simp [TI.bl] at h
    ik := fun k h => by cases h }
theorem ok_lawsPartial : TI.ok Tryz.prog 64 ⟨true, [.int .i64 0, .int .i64 0, .slice none 0 0, .slice none 0 0, .slice none 0 0], [(0, 1, false), (1, 1, false), (2, 3, true)], none, none, false⟩ :=
  { info := ⟨_, .agg #[.int .i64 0, .int .i64 0, .slice none 0 0, .slice none 0 0, .slice none 0 0], (by kernel_rfl : Tryz.prog.info? 64 = some (zeroOf Tryz.prog 64).1), (by kernel_rfl), rfl, (by kernel_rfl)⟩
    und := ⟨_, Tryz.underlying64⟩
    isAgg := fun w => by simp [isAgg, run_underlying Tryz.underlying64]
    flds := fun _ => ⟨_, Tryz.underlying64, (by kernel_rfl), fun k f g hf hg => by
      rcases k with _ | _ | _ | _
      · simp at hf hg; subst hf hg; exact ⟨by decide, fun w => by simp [isAgg, run_underlying Tryz.underlying3]⟩
      · simp at hf hg; subst hf hg; exact ⟨by decide, fun w => by simp [isAgg, run_underlying Tryz.underlying3]⟩
      · simp at hf hg; subst hf hg; exact ⟨by decide, fun w => by simp [isAgg, run_underlying Tryz.underlying62]⟩
      · simp at hf⟩
    bld := fun _ ps cells w h => by
      have e : (fun (i : Nat) => ([(0, 1), (1, 1), (2, 3)] : List (Nat × Nat))[i]?) = (fun (i : Nat) => (([(0, 1, false), (1, 1, false), (2, 3, true)] : List (Nat × Nat × Bool))[i]?).map fun (g : Nat × Nat × Bool) => (g.1, g.2.1)) := by
        funext i
        rcases i with _ | _ | _ | _ <;> simp
      have hi := (by kernel_rfl : Tryz.prog.info? 64 = some (zeroOf Tryz.prog 64).1)
      have hz := (by kernel_rfl : (zeroOf Tryz.prog 64).1.zero = some (.agg #[.int .i64 0, .int .i64 0, .slice none 0 0, .slice none 0 0, .slice none 0 0]))
      have h0 := (by kernel_rfl : Tryz.prog.info? 3 = some (zeroOf Tryz.prog 3).1)
      have s0 := (by kernel_rfl : (zeroOf Tryz.prog 3).1.size = 1)
      have h1 := (by kernel_rfl : Tryz.prog.info? 62 = some (zeroOf Tryz.prog 62).1)
      have s1 := (by kernel_rfl : (zeroOf Tryz.prog 62).1.size = 3)
      have h' : Instr.fill (fun (i : Nat) => ([(0, 1), (1, 1), (2, 3)] : List (Nat × Nat))[i]?) #[.int .i64 0, .int .i64 0, .slice none 0 0, .slice none 0 0, .slice none 0 0] ps = some cells := by rw [e]; exact h
      simp [Instr.build, zeroValue, typeInfo, hi, hz, run_underlying Tryz.underlying64, sizeOf, Value.cells, h0, s0, h1, s1]
      rw [h']
      rfl
    el := fun e y b h => by cases h
    str := fun h => by cases h
    bl := fun h => by simp [TI.bl] at h
    ik := fun k h => by cases h }
theorem ok_lawsSCipher : TI.ok Tryz.prog 46 ⟨false, [.slice none 0 0], [], some (26, (.pair .int .int), 16), none, false⟩ :=
  { info := ⟨_, .slice none 0 0, (by kernel_rfl : Tryz.prog.info? 46 = some (zeroOf Tryz.prog 46).1), (by kernel_rfl), rfl, (by kernel_rfl)⟩
    und := ⟨_, Tryz.underlying46⟩
    isAgg := fun w => by simp [isAgg, run_underlying Tryz.underlying46]
    flds := fun h => absurd rfl h
    bld := fun h => by simp at h
    el := fun e y b h => by
      simp only [Option.some.injEq, Prod.mk.injEq] at h
      obtain ⟨rfl, rfl, rfl⟩ := h
      exact ⟨Tryz.underlying46, _, (zeroOf Tryz.prog 26).2, (by kernel_rfl : Tryz.prog.info? 26 = some (zeroOf Tryz.prog 26).1), (by kernel_rfl), (by kernel_rfl), (by kernel_rfl), (by kernel_rfl), (by decide), fun W lo => by
        rw [show (zeroOf Tryz.prog 26).2.cells.toList = [.int .i64 0, .int .i64 0] from by kernel_rfl]
        exact ⟨[.int .i64 0], [.int .i64 0], [], [], rfl, rfl, ⟨rfl, rfl⟩, ⟨rfl, rfl⟩⟩⟩
    str := fun h => by cases h
    bl := fun h => by simp [TI.bl] at h
    ik := fun k h => by cases h }
theorem ok_lawsSPartial : TI.ok Tryz.prog 27 ⟨false, [.slice none 0 0], [], some (64, (.pair .int (.pair .int (.pair (.list .int) (.pair (.list .int) (.list .int))))), 88), none, false⟩ :=
  { info := ⟨_, .slice none 0 0, (by kernel_rfl : Tryz.prog.info? 27 = some (zeroOf Tryz.prog 27).1), (by kernel_rfl), rfl, (by kernel_rfl)⟩
    und := ⟨_, Tryz.underlying27⟩
    isAgg := fun w => by simp [isAgg, run_underlying Tryz.underlying27]
    flds := fun h => absurd rfl h
    bld := fun h => by simp at h
    el := fun e y b h => by
      simp only [Option.some.injEq, Prod.mk.injEq] at h
      obtain ⟨rfl, rfl, rfl⟩ := h
      exact ⟨Tryz.underlying27, _, (zeroOf Tryz.prog 64).2, (by kernel_rfl : Tryz.prog.info? 64 = some (zeroOf Tryz.prog 64).1), (by kernel_rfl), (by kernel_rfl), (by kernel_rfl), (by kernel_rfl), (by decide), fun W lo => by
        rw [show (zeroOf Tryz.prog 64).2.cells.toList = [.int .i64 0, .int .i64 0, .slice none 0 0, .slice none 0 0, .slice none 0 0] from by kernel_rfl]
        exact ⟨[.int .i64 0], [.int .i64 0, .slice none 0 0, .slice none 0 0, .slice none 0 0], [], [], rfl, rfl, ⟨rfl, rfl⟩, ⟨[.int .i64 0], [.slice none 0 0, .slice none 0 0, .slice none 0 0], [], [], rfl, rfl, ⟨rfl, rfl⟩, ⟨[.slice none 0 0], [.slice none 0 0, .slice none 0 0], [], [], rfl, rfl, ⟨_, 0, rfl, [], [], rfl, rfl, fun k x u b h => by simp [Ty.dflt] at h, World.ownsRow_nil W lo 0 _, rfl⟩, ⟨[.slice none 0 0], [.slice none 0 0], [], [], rfl, rfl, ⟨_, 0, rfl, [], [], rfl, rfl, fun k x u b h => by simp [Ty.dflt] at h, World.ownsRow_nil W lo 0 _, rfl⟩, ⟨_, 0, rfl, [], [], rfl, rfl, fun k x u b h => by simp [Ty.dflt] at h, World.ownsRow_nil W lo 0 _, rfl⟩⟩⟩⟩⟩⟩
    str := fun h => by cases h
    bl := fun h => by simp [TI.bl] at h
    ik := fun k h => by cases h }
theorem ok_lawsSSPartial : TI.ok Tryz.prog 47 ⟨false, [.slice none 0 0], [], some (27, (.list (.pair .int (.pair .int (.pair (.list .int) (.pair (.list .int) (.list .int)))))), 24), none, false⟩ :=
  { info := ⟨_, .slice none 0 0, (by kernel_rfl : Tryz.prog.info? 47 = some (zeroOf Tryz.prog 47).1), (by kernel_rfl), rfl, (by kernel_rfl)⟩
    und := ⟨_, Tryz.underlying47⟩
    isAgg := fun w => by simp [isAgg, run_underlying Tryz.underlying47]
    flds := fun h => absurd rfl h
    bld := fun h => by simp at h
    el := fun e y b h => by
      simp only [Option.some.injEq, Prod.mk.injEq] at h
      obtain ⟨rfl, rfl, rfl⟩ := h
      exact ⟨Tryz.underlying47, _, (zeroOf Tryz.prog 27).2, (by kernel_rfl : Tryz.prog.info? 27 = some (zeroOf Tryz.prog 27).1), (by kernel_rfl), (by kernel_rfl), (by kernel_rfl), (by kernel_rfl), (by decide), fun W lo => by
        rw [show (zeroOf Tryz.prog 27).2.cells.toList = [.slice none 0 0] from by kernel_rfl]
        exact ⟨_, 0, rfl, [], [], rfl, rfl, fun k x u b h => by simp [Ty.dflt] at h, World.ownsRow_nil W lo 0 _, rfl⟩⟩
    str := fun h => by cases h
    bl := fun h => by simp [TI.bl] at h
    ik := fun k h => by cases h }
def TT : List (Nat × TI) := [
  (3, ⟨false, [.int .i64 0], [], none, (some .i64), false⟩),
  (4, ⟨false, [.bool false], [], none, none, false⟩),
  (9, ⟨false, [.string ByteArray.empty], [], none, none, true⟩),
  (98, ⟨false, [.int .u64 0], [], none, (some .u64), false⟩),
  (24, ⟨false, [.slice none 0 0], [], some (3, .int, 8), none, false⟩),
  (95, ⟨false, [.slice none 0 0], [], some (24, (.list .int), 24), none, false⟩),
  (31, ⟨true, [.int .i64 0, .int .i64 0, .int .i64 0], [(0, 1, false), (1, 1, false), (2, 1, false)], none, none, false⟩),
  (66, ⟨true, [.slice none 0 0, .slice none 0 0, .slice none 0 0], [(0, 1, false), (1, 1, false), (2, 1, false)], none, none, false⟩),
  (91, ⟨true, [.int .i64 0, .int .i64 0, .int .i64 0, .int .i64 0], [(0, 1, false), (1, 1, false), (2, 1, false), (3, 1, false)], none, none, false⟩),
  (34, ⟨true, [.int .i64 0, .int .i64 0], [(0, 1, false), (1, 1, false)], none, none, false⟩),
  (68, ⟨true, [.int .i64 0, .int .i64 0, .slice none 0 0, .slice none 0 0, .slice none 0 0], [(0, 1, false), (1, 1, false), (2, 3, true)], none, none, false⟩),
  (51, ⟨false, [.slice none 0 0], [], some (34, (.pair .int .int), 16), none, false⟩),
  (36, ⟨false, [.slice none 0 0], [], some (68, (.pair .int (.pair .int (.pair (.list .int) (.pair (.list .int) (.list .int))))), 88), none, false⟩),
  (53, ⟨false, [.slice none 0 0], [], some (36, (.list (.pair .int (.pair .int (.pair (.list .int) (.pair (.list .int) (.list .int)))))), 24), none, false⟩),
  (23, ⟨true, [.int .i64 0, .int .i64 0, .int .i64 0], [(0, 1, false), (1, 1, false), (2, 1, false)], none, none, false⟩),
  (62, ⟨true, [.slice none 0 0, .slice none 0 0, .slice none 0 0], [(0, 1, false), (1, 1, false), (2, 1, false)], none, none, false⟩),
  (26, ⟨true, [.int .i64 0, .int .i64 0], [(0, 1, false), (1, 1, false)], none, none, false⟩),
  (64, ⟨true, [.int .i64 0, .int .i64 0, .slice none 0 0, .slice none 0 0, .slice none 0 0], [(0, 1, false), (1, 1, false), (2, 3, true)], none, none, false⟩),
  (46, ⟨false, [.slice none 0 0], [], some (26, (.pair .int .int), 16), none, false⟩),
  (27, ⟨false, [.slice none 0 0], [], some (64, (.pair .int (.pair .int (.pair (.list .int) (.pair (.list .int) (.list .int))))), 88), none, false⟩),
  (47, ⟨false, [.slice none 0 0], [], some (27, (.list (.pair .int (.pair .int (.pair (.list .int) (.pair (.list .int) (.list .int)))))), 24), none, false⟩),
  (1000000, ⟨false, [], [], none, none, false⟩)]
@[reducible] def Th : TypeId → Option TI := fun t => look TT.dropLast t
theorem Th_int : Th 3 = some ⟨false, [.int .i64 0], [], none, (some .i64), false⟩ := rfl
theorem Th_bool : Th 4 = some ⟨false, [.bool false], [], none, none, false⟩ := rfl
theorem Th_string : Th 9 = some ⟨false, [.string ByteArray.empty], [], none, none, true⟩ := rfl
theorem Th_uint : Th 98 = some ⟨false, [.int .u64 0], [], none, (some .u64), false⟩ := rfl
theorem Th_Sint : Th 24 = some ⟨false, [.slice none 0 0], [], some (3, .int, 8), none, false⟩ := rfl
theorem Th_SSint : Th 95 = some ⟨false, [.slice none 0 0], [], some (24, (.list .int), 24), none, false⟩ := rfl
theorem Th_implGroup : Th 31 = some ⟨true, [.int .i64 0, .int .i64 0, .int .i64 0], [(0, 1, false), (1, 1, false), (2, 1, false)], none, none, false⟩ := rfl
theorem Th_implProof : Th 66 = some ⟨true, [.slice none 0 0, .slice none 0 0, .slice none 0 0], [(0, 1, false), (1, 1, false), (2, 1, false)], none, none, false⟩ := rfl
theorem Th_implEqualLog : Th 91 = some ⟨true, [.int .i64 0, .int .i64 0, .int .i64 0, .int .i64 0], [(0, 1, false), (1, 1, false), (2, 1, false), (3, 1, false)], none, none, false⟩ := rfl
theorem Th_implCipher : Th 34 = some ⟨true, [.int .i64 0, .int .i64 0], [(0, 1, false), (1, 1, false)], none, none, false⟩ := rfl
theorem Th_implPartial : Th 68 = some ⟨true, [.int .i64 0, .int .i64 0, .slice none 0 0, .slice none 0 0, .slice none 0 0], [(0, 1, false), (1, 1, false), (2, 3, true)], none, none, false⟩ := rfl
theorem Th_implSCipher : Th 51 = some ⟨false, [.slice none 0 0], [], some (34, (.pair .int .int), 16), none, false⟩ := rfl
theorem Th_implSPartial : Th 36 = some ⟨false, [.slice none 0 0], [], some (68, (.pair .int (.pair .int (.pair (.list .int) (.pair (.list .int) (.list .int))))), 88), none, false⟩ := rfl
theorem Th_implSSPartial : Th 53 = some ⟨false, [.slice none 0 0], [], some (36, (.list (.pair .int (.pair .int (.pair (.list .int) (.pair (.list .int) (.list .int)))))), 24), none, false⟩ := rfl
theorem Th_lawsGroup : Th 23 = some ⟨true, [.int .i64 0, .int .i64 0, .int .i64 0], [(0, 1, false), (1, 1, false), (2, 1, false)], none, none, false⟩ := rfl
theorem Th_lawsProof : Th 62 = some ⟨true, [.slice none 0 0, .slice none 0 0, .slice none 0 0], [(0, 1, false), (1, 1, false), (2, 1, false)], none, none, false⟩ := rfl
theorem Th_lawsCipher : Th 26 = some ⟨true, [.int .i64 0, .int .i64 0], [(0, 1, false), (1, 1, false)], none, none, false⟩ := rfl
theorem Th_lawsPartial : Th 64 = some ⟨true, [.int .i64 0, .int .i64 0, .slice none 0 0, .slice none 0 0, .slice none 0 0], [(0, 1, false), (1, 1, false), (2, 3, true)], none, none, false⟩ := rfl
theorem Th_lawsSCipher : Th 46 = some ⟨false, [.slice none 0 0], [], some (26, (.pair .int .int), 16), none, false⟩ := rfl
theorem Th_lawsSPartial : Th 27 = some ⟨false, [.slice none 0 0], [], some (64, (.pair .int (.pair .int (.pair (.list .int) (.pair (.list .int) (.list .int))))), 88), none, false⟩ := rfl
theorem Th_lawsSSPartial : Th 47 = some ⟨false, [.slice none 0 0], [], some (27, (.list (.pair .int (.pair .int (.pair (.list .int) (.pair (.list .int) (.list .int)))))), 24), none, false⟩ := rfl
theorem TT_ok : AllOk Tryz.prog TT.dropLast := by
  unfold TT
  refine ⟨--- int 
    (ok_int : TI.ok Tryz.prog 3 _), 
    (ok_bool : TI.ok Tryz.prog 4 _), 
    (ok_string : TI.ok Tryz.prog 9 _), 
    (ok_uint : TI.ok Tryz.prog 98 _), 
    (ok_Sint : TI.ok Tryz.prog 24 _), 
    (ok_SSint : TI.ok Tryz.prog 95 _), 
    (ok_implGroup : TI.ok Tryz.prog 31 _), 
    (ok_implProof : TI.ok Tryz.prog 66 _), 
    (ok_implEqualLog : TI.ok Tryz.prog 91 _), 
    (ok_implCipher : TI.ok Tryz.prog 34 _), 
    (ok_implPartial : TI.ok Tryz.prog 68 _), 
    (ok_implSCipher : TI.ok Tryz.prog 51 _), 
    (ok_implSPartial : TI.ok Tryz.prog 36 _), 
    (ok_implSSPartial : TI.ok Tryz.prog 53 _), 
    (ok_lawsGroup : TI.ok Tryz.prog 23 _), 
    (ok_lawsProof : TI.ok Tryz.prog 62 _), 
    (ok_lawsCipher : TI.ok Tryz.prog 26 _), 
    (ok_lawsPartial : TI.ok Tryz.prog 64 _), 
    (ok_lawsSCipher : TI.ok Tryz.prog 46 _), 
    (ok_lawsSPartial : TI.ok Tryz.prog 27 _), 
    (ok_lawsSSPartial : TI.ok Tryz.prog 47 _), 
    trivial⟩
theorem Th_ok : ∀ t ti, Th t = some ti → ti.ok Tryz.prog t := TT_ok.get
end Go.Proofs.YtgnnmifpfgpllaaGreat
