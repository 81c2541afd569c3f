import Derived.Test.YtjapjmhifoeogaaZAD
import Derived.Test.YtjapjmhifoeogaaChecked
/- What is known of the types. -/
set_option linter.all false
set_option linter.unusedVariables false
set_option linter.unusedSimpArgs false
namespace Go.Proofs.Ytjapjmhifoeogaa
open Go.RowKit
def zeroOf (P : Program) (t : TypeId) : TypeInfo × Value := match P.info? t with
  | some i => (i, i.zero.getD undef)
  | none => (default, undef)
def AllOk (P : Program) : List (Nat × TI) → Prop
  | [] => True
  | (t, ti) :: l => ti.ok P t ∧ AllOk P l
theorem AllOk.get {P : Program} : ∀ {l : List (Nat × TI)}, AllOk P l → ∀ t ti, look l t = some ti → ti.ok P t
  | [], _, t, ti, h => by cases h
  | (k, x) :: l, hl, t, ti, h => by
    simp only [look] at h
    split at h
    · rename_i e; subst e; cases h; exact hl.1
    · exact AllOk.get hl.2 t ti h
theorem ok_int : TI.ok Try.prog 3 ⟨false, [.int .i64 0], [], none, (some .i64), false⟩ :=
  { info := ⟨_, .int .i64 0, (by kernel_rfl : Try.prog.info? 3 = some (zeroOf Try.prog 3).1), (by kernel_rfl), rfl, (by kernel_rfl)⟩
    und := ⟨_, Try.underlying3⟩
    isAgg := fun w => by simp [isAgg, run_underlying Try.underlying3]
    flds := fun h => absurd rfl h
    bld := fun h => by simp at h
    el := fun e y b h => by cases h
    str := fun h => by first | exact Try.underlying3 | cases h
    bl := fun h => by first | exact Try.underlying3 | (simp [TI.bl] at h; done)
    ik := fun k h => by first | (cases h; exact ⟨by simp, Try.underlying3⟩) | cases h }
theorem ok_bool : TI.ok Try.prog 4 ⟨false, [.bool false], [], none, none, false⟩ :=
  { info := ⟨_, .bool false, (by kernel_rfl : Try.prog.info? 4 = some (zeroOf Try.prog 4).1), (by kernel_rfl), rfl, (by kernel_rfl)⟩
    und := ⟨_, Try.underlying4⟩
    isAgg := fun w => by simp [isAgg, run_underlying Try.underlying4]
    flds := fun h => absurd rfl h
    bld := fun h => by simp at h
    el := fun e y b h => by cases h
    str := fun h => by first | exact Try.underlying4 | cases h
    bl := fun h => by first | exact Try.underlying4 | (simp [TI.bl] at h; done)
    ik := fun k h => by first | (cases h; exact ⟨by simp, Try.underlying4⟩) | cases h }
theorem ok_string : TI.ok Try.prog 9 ⟨false, [.string ByteArray.empty], [], none, none, true⟩ :=
  { info := ⟨_, .string ByteArray.empty, (by kernel_rfl : Try.prog.info? 9 = some (zeroOf Try.prog 9).1), (by kernel_rfl), rfl, (by kernel_rfl)⟩
    und := ⟨_, Try.underlying9⟩
    isAgg := fun w => by simp [isAgg, run_underlying Try.underlying9]
    flds := fun h => absurd rfl h
    bld := fun h => by simp at h
    el := fun e y b h => by cases h
    str := fun h => by first | exact Try.underlying9 | cases h
    bl := fun h => by first | exact Try.underlying9 | (simp [TI.bl] at h; done)
    ik := fun k h => by first | (cases h; exact ⟨by simp, Try.underlying9⟩) | cases h }
theorem ok_uint : TI.ok Try.prog 133 ⟨false, [.int .u64 0], [], none, (some .u64), false⟩ :=
  { info := ⟨_, .int .u64 0, (by kernel_rfl : Try.prog.info? 133 = some (zeroOf Try.prog 133).1), (by kernel_rfl), rfl, (by kernel_rfl)⟩
    und := ⟨_, Try.underlying133⟩
    isAgg := fun w => by simp [isAgg, run_underlying Try.underlying133]
    flds := fun h => absurd rfl h
    bld := fun h => by simp at h
    el := fun e y b h => by cases h
    str := fun h => by first | exact Try.underlying133 | cases h
    bl := fun h => by first | exact Try.underlying133 | (simp [TI.bl] at h; done)
    ik := fun k h => by first | (cases h; exact ⟨by simp, Try.underlying133⟩) | cases h }
theorem ok_Sint : TI.ok Try.prog 33 ⟨false, [.slice none 0 0], [], some (3, .int, 8), none, false⟩ :=
  { info := ⟨_, .slice none 0 0, (by kernel_rfl : Try.prog.info? 33 = some (zeroOf Try.prog 33).1), (by kernel_rfl), rfl, (by kernel_rfl)⟩
    und := ⟨_, Try.underlying33⟩
    isAgg := fun w => by simp [isAgg, run_underlying Try.underlying33]
    flds := fun h => absurd rfl h
    bld := fun h => by simp at h
    el := fun e y b h => by
      simp only [Option.some.injEq, Prod.mk.injEq] at h
      obtain ⟨rfl, rfl, rfl⟩ := h
      exact ⟨Try.underlying33, _, (zeroOf Try.prog 3).2, (by kernel_rfl : Try.prog.info? 3 = some (zeroOf Try.prog 3).1), (by kernel_rfl), (by kernel_rfl), (by kernel_rfl), (by kernel_rfl), (by decide), fun W lo => by
        rw [show (zeroOf Try.prog 3).2.cells.toList = [.int .i64 0] from by kernel_rfl]
        exact ⟨rfl, rfl⟩⟩
    str := fun h => by cases h
    bl := fun h => by simp [TI.bl] at h
    ik := fun k h => by cases h }
theorem ok_implGroup : TI.ok Try.prog 28 ⟨true, [.int .i64 0, .int .i64 0, .int .i64 0], [(0, 1, false), (1, 1, false), (2, 1, false)], none, none, false⟩ :=
  { info := ⟨_, .agg #[.int .i64 0, .int .i64 0, .int .i64 0], (by kernel_rfl : Try.prog.info? 28 = some (zeroOf Try.prog 28).1), (by kernel_rfl), rfl, (by kernel_rfl)⟩
    und := ⟨_, Try.underlying28⟩
    isAgg := fun w => by simp [isAgg, run_underlying Try.underlying28]
    flds := fun _ => ⟨_, Try.underlying28, (by kernel_rfl), fun k f g hf hg => by
      rcases k with _ | _ | _ | _
      · simp at hf hg; subst hf hg; exact ⟨by decide, fun w => by simp [isAgg, run_underlying Try.underlying3]⟩
      · simp at hf hg; subst hf hg; exact ⟨by decide, fun w => by simp [isAgg, run_underlying Try.underlying3]⟩
      · simp at hf hg; subst hf hg; exact ⟨by decide, fun w => by simp [isAgg, run_underlying Try.underlying3]⟩
      · simp at hf⟩
    bld := fun _ ps cells w h => by
      have e : (fun (i : Nat) => ([(0, 1), (1, 1), (2, 1)] : List (Nat × Nat))[i]?) = (fun (i : Nat) => (([(0, 1, false), (1, 1, false), (2, 1, false)] : List (Nat × Nat × Bool))[i]?).map fun (g : Nat × Nat × Bool) => (g.1, g.2.1)) := by
        funext i
        rcases i with _ | _ | _ | _ <;> simp
      have hi := (by kernel_rfl : Try.prog.info? 28 = some (zeroOf Try.prog 28).1)
      have hz := (by kernel_rfl : (zeroOf Try.prog 28).1.zero = some (.agg #[.int .i64 0, .int .i64 0, .int .i64 0]))
      have h0 := (by kernel_rfl : Try.prog.info? 3 = some (zeroOf Try.prog 3).1)
      have s0 := (by kernel_rfl : (zeroOf Try.prog 3).1.size = 1)
      have h' : Instr.fill (fun (i : Nat) => ([(0, 1), (1, 1), (2, 1)] : List (Nat × Nat))[i]?) #[.int .i64 0, .int .i64 0, .int .i64 0] ps = some cells := by rw [e]; exact h
      simp [Instr.build, zeroValue, typeInfo, hi, hz, run_underlying Try.underlying28, sizeOf, Value.cells, h0, s0]
      rw [h']
      rfl
    el := fun e y b h => by cases h
    str := fun h => by cases h
    bl := fun h => by simp [TI.bl] at h
    ik := fun k h => by cases h }
theorem ok_implBases : TI.ok Try.prog 35 ⟨true, [.int .i64 0, .slice none 0 0], [(0, 1, false), (1, 1, false)], none, none, false⟩ :=
  { info := ⟨_, .agg #[.int .i64 0, .slice none 0 0], (by kernel_rfl : Try.prog.info? 35 = some (zeroOf Try.prog 35).1), (by kernel_rfl), rfl, (by kernel_rfl)⟩
    und := ⟨_, Try.underlying35⟩
    isAgg := fun w => by simp [isAgg, run_underlying Try.underlying35]
    flds := fun _ => ⟨_, Try.underlying35, (by kernel_rfl), fun k f g hf hg => by
      rcases k with _ | _ | _
      · simp at hf hg; subst hf hg; exact ⟨by decide, fun w => by simp [isAgg, run_underlying Try.underlying3]⟩
      · simp at hf hg; subst hf hg; exact ⟨by decide, fun w => by simp [isAgg, run_underlying Try.underlying33]⟩
      · simp at hf⟩
    bld := fun _ ps cells w h => by
      have e : (fun (i : Nat) => ([(0, 1), (1, 1)] : List (Nat × Nat))[i]?) = (fun (i : Nat) => (([(0, 1, false), (1, 1, false)] : List (Nat × Nat × Bool))[i]?).map fun (g : Nat × Nat × Bool) => (g.1, g.2.1)) := by
        funext i
        rcases i with _ | _ | _ <;> simp
      have hi := (by kernel_rfl : Try.prog.info? 35 = some (zeroOf Try.prog 35).1)
      have hz := (by kernel_rfl : (zeroOf Try.prog 35).1.zero = some (.agg #[.int .i64 0, .slice none 0 0]))
      have h0 := (by kernel_rfl : Try.prog.info? 3 = some (zeroOf Try.prog 3).1)
      have s0 := (by kernel_rfl : (zeroOf Try.prog 3).1.size = 1)
      have h1 := (by kernel_rfl : Try.prog.info? 33 = some (zeroOf Try.prog 33).1)
      have s1 := (by kernel_rfl : (zeroOf Try.prog 33).1.size = 1)
      have h' : Instr.fill (fun (i : Nat) => ([(0, 1), (1, 1)] : List (Nat × Nat))[i]?) #[.int .i64 0, .slice none 0 0] ps = some cells := by rw [e]; exact h
      simp [Instr.build, zeroValue, typeInfo, hi, hz, run_underlying Try.underlying35, sizeOf, Value.cells, h0, s0, h1, s1]
      rw [h']
      rfl
    el := fun e y b h => by cases h
    str := fun h => by cases h
    bl := fun h => by simp [TI.bl] at h
    ik := fun k h => by cases h }
theorem ok_implEqualLog : TI.ok Try.prog 30 ⟨true, [.int .i64 0, .int .i64 0, .int .i64 0, .int .i64 0], [(0, 1, false), (1, 1, false), (2, 1, false), (3, 1, false)], none, none, false⟩ :=
  { info := ⟨_, .agg #[.int .i64 0, .int .i64 0, .int .i64 0, .int .i64 0], (by kernel_rfl : Try.prog.info? 30 = some (zeroOf Try.prog 30).1), (by kernel_rfl), rfl, (by kernel_rfl)⟩
    und := ⟨_, Try.underlying30⟩
    isAgg := fun w => by simp [isAgg, run_underlying Try.underlying30]
    flds := fun _ => ⟨_, Try.underlying30, (by kernel_rfl), fun k f g hf hg => by
      rcases k with _ | _ | _ | _ | _
      · simp at hf hg; subst hf hg; exact ⟨by decide, fun w => by simp [isAgg, run_underlying Try.underlying3]⟩
      · simp at hf hg; subst hf hg; exact ⟨by decide, fun w => by simp [isAgg, run_underlying Try.underlying3]⟩
      · simp at hf hg; subst hf hg; exact ⟨by decide, fun w => by simp [isAgg, run_underlying Try.underlying3]⟩
      · simp at hf hg; subst hf hg; exact ⟨by decide, fun w => by simp [isAgg, run_underlying Try.underlying3]⟩
      · simp at hf⟩
    bld := fun _ ps cells w h => by
      have e : (fun (i : Nat) => ([(0, 1), (1, 1), (2, 1), (3, 1)] : List (Nat × Nat))[i]?) = (fun (i : Nat) => (([(0, 1, false), (1, 1, false), (2, 1, false), (3, 1, false)] : List (Nat × Nat × Bool))[i]?).map fun (g : Nat × Nat × Bool) => (g.1, g.2.1)) := by
        funext i
        rcases i with _ | _ | _ | _ | _ <;> simp
      have hi := (by kernel_rfl : Try.prog.info? 30 = some (zeroOf Try.prog 30).1)
      have hz := (by kernel_rfl : (zeroOf Try.prog 30).1.zero = some (.agg #[.int .i64 0, .int .i64 0, .int .i64 0, .int .i64 0]))
      have h0 := (by kernel_rfl : Try.prog.info? 3 = some (zeroOf Try.prog 3).1)
      have s0 := (by kernel_rfl : (zeroOf Try.prog 3).1.size = 1)
      have h' : Instr.fill (fun (i : Nat) => ([(0, 1), (1, 1), (2, 1), (3, 1)] : List (Nat × Nat))[i]?) #[.int .i64 0, .int .i64 0, .int .i64 0, .int .i64 0] ps = some cells := by rw [e]; exact h
      simp [Instr.build, zeroValue, typeInfo, hi, hz, run_underlying Try.underlying30, sizeOf, Value.cells, h0, s0]
      rw [h']
      rfl
    el := fun e y b h => by cases h
    str := fun h => by cases h
    bl := fun h => by simp [TI.bl] at h
    ik := fun k h => by cases h }
theorem ok_implDealing : TI.ok Try.prog 48 ⟨true, [.slice none 0 0, .slice none 0 0], [(0, 1, false), (1, 1, false)], none, none, false⟩ :=
  { info := ⟨_, .agg #[.slice none 0 0, .slice none 0 0], (by kernel_rfl : Try.prog.info? 48 = some (zeroOf Try.prog 48).1), (by kernel_rfl), rfl, (by kernel_rfl)⟩
    und := ⟨_, Try.underlying48⟩
    isAgg := fun w => by simp [isAgg, run_underlying Try.underlying48]
    flds := fun _ => ⟨_, Try.underlying48, (by kernel_rfl), fun k f g hf hg => by
      rcases k with _ | _ | _
      · simp at hf hg; subst hf hg; exact ⟨by decide, fun w => by simp [isAgg, run_underlying Try.underlying33]⟩
      · simp at hf hg; subst hf hg; exact ⟨by decide, fun w => by simp [isAgg, run_underlying Try.underlying33]⟩
      · simp at hf⟩
    bld := fun _ ps cells w h => by
      have e : (fun (i : Nat) => ([(0, 1), (1, 1)] : List (Nat × Nat))[i]?) = (fun (i : Nat) => (([(0, 1, false), (1, 1, false)] : List (Nat × Nat × Bool))[i]?).map fun (g : Nat × Nat × Bool) => (g.1, g.2.1)) := by
        funext i
        rcases i with _ | _ | _ <;> simp
      have hi := (by kernel_rfl : Try.prog.info? 48 = some (zeroOf Try.prog 48).1)
      have hz := (by kernel_rfl : (zeroOf Try.prog 48).1.zero = some (.agg #[.slice none 0 0, .slice none 0 0]))
      have h0 := (by kernel_rfl : Try.prog.info? 33 = some (zeroOf Try.prog 33).1)
      have s0 := (by kernel_rfl : (zeroOf Try.prog 33).1.size = 1)
      have h' : Instr.fill (fun (i : Nat) => ([(0, 1), (1, 1)] : List (Nat × Nat))[i]?) #[.slice none 0 0, .slice none 0 0] ps = some cells := by rw [e]; exact h
      simp [Instr.build, zeroValue, typeInfo, hi, hz, run_underlying Try.underlying48, sizeOf, Value.cells, h0, s0]
      rw [h']
      rfl
    el := fun e y b h => by cases h
    str := fun h => by cases h
    bl := fun h => by simp [TI.bl] at h
    ik := fun k h => by cases h }
theorem ok_implSharedKey : TI.ok Try.prog 77 ⟨true, [.slice none 0 0, .slice none 0 0], [(0, 1, false), (1, 1, false)], none, none, false⟩ :=
  { info := ⟨_, .agg #[.slice none 0 0, .slice none 0 0], (by kernel_rfl : Try.prog.info? 77 = some (zeroOf Try.prog 77).1), (by kernel_rfl), rfl, (by kernel_rfl)⟩
    und := ⟨_, Try.underlying77⟩
    isAgg := fun w => by simp [isAgg, run_underlying Try.underlying77]
    flds := fun _ => ⟨_, Try.underlying77, (by kernel_rfl), fun k f g hf hg => by
      rcases k with _ | _ | _
      · simp at hf hg; subst hf hg; exact ⟨by decide, fun w => by simp [isAgg, run_underlying Try.underlying33]⟩
      · simp at hf hg; subst hf hg; exact ⟨by decide, fun w => by simp [isAgg, run_underlying Try.underlying33]⟩
      · simp at hf⟩
    bld := fun _ ps cells w h => by
      have e : (fun (i : Nat) => ([(0, 1), (1, 1)] : List (Nat × Nat))[i]?) = (fun (i : Nat) => (([(0, 1, false), (1, 1, false)] : List (Nat × Nat × Bool))[i]?).map fun (g : Nat × Nat × Bool) => (g.1, g.2.1)) := by
        funext i
        rcases i with _ | _ | _ <;> simp
      have hi := (by kernel_rfl : Try.prog.info? 77 = some (zeroOf Try.prog 77).1)
      have hz := (by kernel_rfl : (zeroOf Try.prog 77).1.zero = some (.agg #[.slice none 0 0, .slice none 0 0]))
      have h0 := (by kernel_rfl : Try.prog.info? 33 = some (zeroOf Try.prog 33).1)
      have s0 := (by kernel_rfl : (zeroOf Try.prog 33).1.size = 1)
      have h' : Instr.fill (fun (i : Nat) => ([(0, 1), (1, 1)] : List (Nat × Nat))[i]?) #[.slice none 0 0, .slice none 0 0] ps = some cells := by rw [e]; exact h
      simp [Instr.build, zeroValue, typeInfo, hi, hz, run_underlying Try.underlying77, sizeOf, Value.cells, h0, s0]
      rw [h']
      rfl
    el := fun e y b h => by cases h
    str := fun h => by cases h
    bl := fun h => by simp [TI.bl] at h
    ik := fun k h => by cases h }
theorem ok_implSDealing : TI.ok Try.prog 64 ⟨false, [.slice none 0 0], [], some (48, (.pair (.list .int) (.list .int)), 48), none, false⟩ :=
  { info := ⟨_, .slice none 0 0, (by kernel_rfl : Try.prog.info? 64 = some (zeroOf Try.prog 64).1), (by kernel_rfl), rfl, (by kernel_rfl)⟩
    und := ⟨_, Try.underlying64⟩
    isAgg := fun w => by simp [isAgg, run_underlying Try.underlying64]
    flds := fun h => absurd rfl h
    bld := fun h => by simp at h
    el := fun e y b h => by
      simp only [Option.some.injEq, Prod.mk.injEq] at h
      obtain ⟨rfl, rfl, rfl⟩ := h
      exact ⟨Try.underlying64, _, (zeroOf Try.prog 48).2, (by kernel_rfl : Try.prog.info? 48 = some (zeroOf Try.prog 48).1), (by kernel_rfl), (by kernel_rfl), (by kernel_rfl), (by kernel_rfl), (by decide), fun W lo => by
        rw [show (zeroOf Try.prog 48).2.cells.toList = [.slice none 0 0, .slice none 0 0] from by kernel_rfl]
        exact ⟨[.slice none 0 0], [.slice none 0 0], [], [], rfl, rfl, ⟨_, 0, rfl, [], [], rfl, rfl, fun k x u b h => by simp [Ty.dflt] at h, World.ownsRow_nil W lo 0 _, rfl⟩, ⟨_, 0, rfl, [], [], rfl, rfl, fun k x u b h => by simp [Ty.dflt] at h, World.ownsRow_nil W lo 0 _, rfl⟩⟩⟩
    str := fun h => by cases h
    bl := fun h => by simp [TI.bl] at h
    ik := fun k h => by cases h }
theorem ok_lawsGroup : TI.ok Try.prog 23 ⟨true, [.int .i64 0, .int .i64 0, .int .i64 0], [(0, 1, false), (1, 1, false), (2, 1, false)], none, none, false⟩ :=
  { info := ⟨_, .agg #[.int .i64 0, .int .i64 0, .int .i64 0], (by kernel_rfl : Try.prog.info? 23 = some (zeroOf Try.prog 23).1), (by kernel_rfl), rfl, (by kernel_rfl)⟩
    und := ⟨_, Try.underlying23⟩
    isAgg := fun w => by simp [isAgg, run_underlying Try.underlying23]
    flds := fun _ => ⟨_, Try.underlying23, (by kernel_rfl), fun k f g hf hg => by
      rcases k with _ | _ | _ | _
      · simp at hf hg; subst hf hg; exact ⟨by decide, fun w => by simp [isAgg, run_underlying Try.underlying3]⟩
      · simp at hf hg; subst hf hg; exact ⟨by decide, fun w => by simp [isAgg, run_underlying Try.underlying3]⟩
      · simp at hf hg; subst hf hg; exact ⟨by decide, fun w => by simp [isAgg, run_underlying Try.underlying3]⟩
      · simp at hf⟩
    bld := fun _ ps cells w h => by
      have e : (fun (i : Nat) => ([(0, 1), (1, 1), (2, 1)] : List (Nat × Nat))[i]?) = (fun (i : Nat) => (([(0, 1, false), (1, 1, false), (2, 1, false)] : List (Nat × Nat × Bool))[i]?).map fun (g : Nat × Nat × Bool) => (g.1, g.2.1)) := by
        funext i
        rcases i with _ | _ | _ | _ <;> simp
      have hi := (by kernel_rfl : Try.prog.info? 23 = some (zeroOf Try.prog 23).1)
      have hz := (by kernel_rfl : (zeroOf Try.prog 23).1.zero = some (.agg #[.int .i64 0, .int .i64 0, .int .i64 0]))
      have h0 := (by kernel_rfl : Try.prog.info? 3 = some (zeroOf Try.prog 3).1)
      have s0 := (by kernel_rfl : (zeroOf Try.prog 3).1.size = 1)
      have h' : Instr.fill (fun (i : Nat) => ([(0, 1), (1, 1), (2, 1)] : List (Nat × Nat))[i]?) #[.int .i64 0, .int .i64 0, .int .i64 0] ps = some cells := by rw [e]; exact h
      simp [Instr.build, zeroValue, typeInfo, hi, hz, run_underlying Try.underlying23, sizeOf, Value.cells, h0, s0]
      rw [h']
      rfl
    el := fun e y b h => by cases h
    str := fun h => by cases h
    bl := fun h => by simp [TI.bl] at h
    ik := fun k h => by cases h }
theorem ok_lawsEqualLog : TI.ok Try.prog 25 ⟨true, [.int .i64 0, .int .i64 0, .int .i64 0, .int .i64 0], [(0, 1, false), (1, 1, false), (2, 1, false), (3, 1, false)], none, none, false⟩ :=
  { info := ⟨_, .agg #[.int .i64 0, .int .i64 0, .int .i64 0, .int .i64 0], (by kernel_rfl : Try.prog.info? 25 = some (zeroOf Try.prog 25).1), (by kernel_rfl), rfl, (by kernel_rfl)⟩
    und := ⟨_, Try.underlying25⟩
    isAgg := fun w => by simp [isAgg, run_underlying Try.underlying25]
    flds := fun _ => ⟨_, Try.underlying25, (by kernel_rfl), fun k f g hf hg => by
      rcases k with _ | _ | _ | _ | _
      · simp at hf hg; subst hf hg; exact ⟨by decide, fun w => by simp [isAgg, run_underlying Try.underlying3]⟩
      · simp at hf hg; subst hf hg; exact ⟨by decide, fun w => by simp [isAgg, run_underlying Try.underlying3]⟩
      · simp at hf hg; subst hf hg; exact ⟨by decide, fun w => by simp [isAgg, run_underlying Try.underlying3]⟩
      · simp at hf hg; subst hf hg; exact ⟨by decide, fun w => by simp [isAgg, run_underlying Try.underlying3]⟩
      · simp at hf⟩
    bld := fun _ ps cells w h => by
      have e : (fun (i : Nat) => ([(0, 1), (1, 1), (2, 1), (3, 1)] : List (Nat × Nat))[i]?) = (fun (i : Nat) => (([(0, 1, false), (1, 1, false), (2, 1, false), (3, 1, false)] : List (Nat × Nat × Bool))[i]?).map fun (g : Nat × Nat × Bool) => (g.1, g.2.1)) := by
        funext i
        rcases i with _ | _ | _ | _ | _ <;> simp
      have hi := (by kernel_rfl : Try.prog.info? 25 = some (zeroOf Try.prog 25).1)
      have hz := (by kernel_rfl : (zeroOf Try.prog 25).1.zero = some (.agg #[.int .i64 0, .int .i64 0, .int .i64 0, .int .i64 0]))
      have h0 := (by kernel_rfl : Try.prog.info? 3 = some (zeroOf Try.prog 3).1)
      have s0 := (by kernel_rfl : (zeroOf Try.prog 3).1.size = 1)
      have h' : Instr.fill (fun (i : Nat) => ([(0, 1), (1, 1), (2, 1), (3, 1)] : List (Nat × Nat))[i]?) #[.int .i64 0, .int .i64 0, .int .i64 0, .int .i64 0] ps = some cells := by rw [e]; exact h
      simp [Instr.build, zeroValue, typeInfo, hi, hz, run_underlying Try.underlying25, sizeOf, Value.cells, h0, s0]
      rw [h']
      rfl
    el := fun e y b h => by cases h
    str := fun h => by cases h
    bl := fun h => by simp [TI.bl] at h
    ik := fun k h => by cases h }
theorem ok_lawsDealing : TI.ok Try.prog 54 ⟨true, [.slice none 0 0, .slice none 0 0], [(0, 1, false), (1, 1, false)], none, none, false⟩ :=
  { info := ⟨_, .agg #[.slice none 0 0, .slice none 0 0], (by kernel_rfl : Try.prog.info? 54 = some (zeroOf Try.prog 54).1), (by kernel_rfl), rfl, (by kernel_rfl)⟩
    und := ⟨_, Try.underlying54⟩
    isAgg := fun w => by simp [isAgg, run_underlying Try.underlying54]
    flds := fun _ => ⟨_, Try.underlying54, (by kernel_rfl), fun k f g hf hg => by
      rcases k with _ | _ | _
      · simp at hf hg; subst hf hg; exact ⟨by decide, fun w => by simp [isAgg, run_underlying Try.underlying33]⟩
      · simp at hf hg; subst hf hg; exact ⟨by decide, fun w => by simp [isAgg, run_underlying Try.underlying33]⟩
      · simp at hf⟩
    bld := fun _ ps cells w h => by
      have e : (fun (i : Nat) => ([(0, 1), (1, 1)] : List (Nat × Nat))[i]?) = (fun (i : Nat) => (([(0, 1, false), (1, 1, false)] : List (Nat × Nat × Bool))[i]?).map fun (g : Nat × Nat × Bool) => (g.1, g.2.1)) := by
        funext i
        rcases i with _ | _ | _ <;> simp
      have hi := (by kernel_rfl : Try.prog.info? 54 = some (zeroOf Try.prog 54).1)
      have hz := (by kernel_rfl : (zeroOf Try.prog 54).1.zero = some (.agg #[.slice none 0 0, .slice none 0 0]))
      have h0 := (by kernel_rfl : Try.prog.info? 33 = some (zeroOf Try.prog 33).1)
      have s0 := (by kernel_rfl : (zeroOf Try.prog 33).1.size = 1)
      have h' : Instr.fill (fun (i : Nat) => ([(0, 1), (1, 1)] : List (Nat × Nat))[i]?) #[.slice none 0 0, .slice none 0 0] ps = some cells := by rw [e]; exact h
      simp [Instr.build, zeroValue, typeInfo, hi, hz, run_underlying Try.underlying54, sizeOf, Value.cells, h0, s0]
      rw [h']
      rfl
    el := fun e y b h => by cases h
    str := fun h => by cases h
    bl := fun h => by simp [TI.bl] at h
    ik := fun k h => by cases h }
theorem ok_lawsSharedKey : TI.ok Try.prog 74 ⟨true, [.slice none 0 0, .slice none 0 0], [(0, 1, false), (1, 1, false)], none, none, false⟩ :=
  { info := ⟨_, .agg #[.slice none 0 0, .slice none 0 0], (by kernel_rfl : Try.prog.info? 74 = some (zeroOf Try.prog 74).1), (by kernel_rfl), rfl, (by kernel_rfl)⟩
    und := ⟨_, Try.underlying74⟩
    isAgg := fun w => by simp [isAgg, run_underlying Try.underlying74]
    flds := fun _ => ⟨_, Try.underlying74, (by kernel_rfl), fun k f g hf hg => by
      rcases k with _ | _ | _
      · simp at hf hg; subst hf hg; exact ⟨by decide, fun w => by simp [isAgg, run_underlying Try.underlying33]⟩
      · simp at hf hg; subst hf hg; exact ⟨by decide, fun w => by simp [isAgg, run_underlying Try.underlying33]⟩
      · simp at hf⟩
    bld := fun _ ps cells w h => by
      have e : (fun (i : Nat) => ([(0, 1), (1, 1)] : List (Nat × Nat))[i]?) = (fun (i : Nat) => (([(0, 1, false), (1, 1, false)] : List (Nat × Nat × Bool))[i]?).map fun (g : Nat × Nat × Bool) => (g.1, g.2.1)) := by
        funext i
        rcases i with _ | _ | _ <;> simp
      have hi := (by kernel_rfl : Try.prog.info? 74 = some (zeroOf Try.prog 74).1)
      have hz := (by kernel_rfl : (zeroOf Try.prog 74).1.zero = some (.agg #[.slice none 0 0, .slice none 0 0]))
      have h0 := (by kernel_rfl : Try.prog.info? 33 = some (zeroOf Try.prog 33).1)
      have s0 := (by kernel_rfl : (zeroOf Try.prog 33).1.size = 1)
      have h' : Instr.fill (fun (i : Nat) => ([(0, 1), (1, 1)] : List (Nat × Nat))[i]?) #[.slice none 0 0, .slice none 0 0] ps = some cells := by rw [e]; exact h
      simp [Instr.build, zeroValue, typeInfo, hi, hz, run_underlying Try.underlying74, sizeOf, Value.cells, h0, s0]
      rw [h']
      rfl
    el := fun e y b h => by cases h
    str := fun h => by cases h
    bl := fun h => by simp [TI.bl] at h
    ik := fun k h => by cases h }
theorem ok_lawsSDealing : TI.ok Try.prog 61 ⟨false, [.slice none 0 0], [], some (54, (.pair (.list .int) (.list .int)), 48), none, false⟩ :=
  { info := ⟨_, .slice none 0 0, (by kernel_rfl : Try.prog.info? 61 = some (zeroOf Try.prog 61).1), (by kernel_rfl), rfl, (by kernel_rfl)⟩
    und := ⟨_, Try.underlying61⟩
    isAgg := fun w => by simp [isAgg, run_underlying Try.underlying61]
    flds := fun h => absurd rfl h
    bld := fun h => by simp at h
    el := fun e y b h => by
      simp only [Option.some.injEq, Prod.mk.injEq] at h
      obtain ⟨rfl, rfl, rfl⟩ := h
      exact ⟨Try.underlying61, _, (zeroOf Try.prog 54).2, (by kernel_rfl : Try.prog.info? 54 = some (zeroOf Try.prog 54).1), (by kernel_rfl), (by kernel_rfl), (by kernel_rfl), (by kernel_rfl), (by decide), fun W lo => by
        rw [show (zeroOf Try.prog 54).2.cells.toList = [.slice none 0 0, .slice none 0 0] from by kernel_rfl]
        exact ⟨[.slice none 0 0], [.slice none 0 0], [], [], rfl, rfl, ⟨_, 0, rfl, [], [], rfl, rfl, fun k x u b h => by simp [Ty.dflt] at h, World.ownsRow_nil W lo 0 _, rfl⟩, ⟨_, 0, rfl, [], [], rfl, rfl, fun k x u b h => by simp [Ty.dflt] at h, World.ownsRow_nil W lo 0 _, rfl⟩⟩⟩
    str := fun h => by cases h
    bl := fun h => by simp [TI.bl] at h
    ik := fun k h => by cases h }
def TT : List (Nat × TI) := [
  (3, ⟨false, [.int .i64 0], [], none, (some .i64), false⟩),
  (4, ⟨false, [.bool false], [], none, none, false⟩),
  (9, ⟨false, [.string ByteArray.empty], [], none, none, true⟩),
  (133, ⟨false, [.int .u64 0], [], none, (some .u64), false⟩),
  (33, ⟨false, [.slice none 0 0], [], some (3, .int, 8), none, false⟩),
  (28, ⟨true, [.int .i64 0, .int .i64 0, .int .i64 0], [(0, 1, false), (1, 1, false), (2, 1, false)], none, none, false⟩),
  (35, ⟨true, [.int .i64 0, .slice none 0 0], [(0, 1, false), (1, 1, false)], none, none, false⟩),
  (30, ⟨true, [.int .i64 0, .int .i64 0, .int .i64 0, .int .i64 0], [(0, 1, false), (1, 1, false), (2, 1, false), (3, 1, false)], none, none, false⟩),
  (48, ⟨true, [.slice none 0 0, .slice none 0 0], [(0, 1, false), (1, 1, false)], none, none, false⟩),
  (77, ⟨true, [.slice none 0 0, .slice none 0 0], [(0, 1, false), (1, 1, false)], none, none, false⟩),
  (64, ⟨false, [.slice none 0 0], [], some (48, (.pair (.list .int) (.list .int)), 48), none, false⟩),
  (23, ⟨true, [.int .i64 0, .int .i64 0, .int .i64 0], [(0, 1, false), (1, 1, false), (2, 1, false)], none, none, false⟩),
  (25, ⟨true, [.int .i64 0, .int .i64 0, .int .i64 0, .int .i64 0], [(0, 1, false), (1, 1, false), (2, 1, false), (3, 1, false)], none, none, false⟩),
  (54, ⟨true, [.slice none 0 0, .slice none 0 0], [(0, 1, false), (1, 1, false)], none, none, false⟩),
  (74, ⟨true, [.slice none 0 0, .slice none 0 0], [(0, 1, false), (1, 1, false)], none, none, false⟩),
  (61, ⟨false, [.slice none 0 0], [], some (54, (.pair (.list .int) (.list .int)), 48), none, false⟩),
  (1000000, ⟨false, [], [], none, none, false⟩)]
@[reducible] def Th : TypeId → Option TI := fun t => look TT.dropLast t
theorem Th_int : Th 3 = some ⟨false, [.int .i64 0], [], none, (some .i64), false⟩ := rfl
theorem Th_bool : Th 4 = some ⟨false, [.bool false], [], none, none, false⟩ := rfl
theorem Th_string : Th 9 = some ⟨false, [.string ByteArray.empty], [], none, none, true⟩ := rfl
theorem Th_Sint : Th 33 = some ⟨false, [.slice none 0 0], [], some (3, .int, 8), none, false⟩ := rfl
theorem Th_implGroup : Th 28 = some ⟨true, [.int .i64 0, .int .i64 0, .int .i64 0], [(0, 1, false), (1, 1, false), (2, 1, false)], none, none, false⟩ := rfl
theorem Th_implBases : Th 35 = some ⟨true, [.int .i64 0, .slice none 0 0], [(0, 1, false), (1, 1, false)], none, none, false⟩ := rfl
theorem Th_implEqualLog : Th 30 = some ⟨true, [.int .i64 0, .int .i64 0, .int .i64 0, .int .i64 0], [(0, 1, false), (1, 1, false), (2, 1, false), (3, 1, false)], none, none, false⟩ := rfl
theorem Th_implDealing : Th 48 = some ⟨true, [.slice none 0 0, .slice none 0 0], [(0, 1, false), (1, 1, false)], none, none, false⟩ := rfl
theorem Th_implSDealing : Th 64 = some ⟨false, [.slice none 0 0], [], some (48, (.pair (.list .int) (.list .int)), 48), none, false⟩ := rfl
theorem Th_lawsGroup : Th 23 = some ⟨true, [.int .i64 0, .int .i64 0, .int .i64 0], [(0, 1, false), (1, 1, false), (2, 1, false)], none, none, false⟩ := rfl
theorem Th_lawsEqualLog : Th 25 = some ⟨true, [.int .i64 0, .int .i64 0, .int .i64 0, .int .i64 0], [(0, 1, false), (1, 1, false), (2, 1, false), (3, 1, false)], none, none, false⟩ := rfl
theorem Th_lawsDealing : Th 54 = some ⟨true, [.slice none 0 0, .slice none 0 0], [(0, 1, false), (1, 1, false)], none, none, false⟩ := rfl
theorem Th_lawsSharedKey : Th 74 = some ⟨true, [.slice none 0 0, .slice none 0 0], [(0, 1, false), (1, 1, false)], none, none, false⟩ := rfl
theorem Th_lawsSDealing : Th 61 = some ⟨false, [.slice none 0 0], [], some (54, (.pair (.list .int) (.list .int)), 48), none, false⟩ := rfl
theorem TT_ok : AllOk Try.prog TT.dropLast := by
  unfold TT
  refine ⟨--- int 
    (ok_int : TI.ok Try.prog 3 _), 
    (ok_bool : TI.ok Try.prog 4 _), 
    (ok_string : TI.ok Try.prog 9 _), 
    (ok_uint : TI.ok Try.prog 133 _), 
    (ok_Sint : TI.ok Try.prog 33 _), 
    (ok_implGroup : TI.ok Try.prog 28 _), 
    (ok_implBases : TI.ok Try.prog 35 _), 
    (ok_implEqualLog : TI.ok Try.prog 30 _), 
    (ok_implDealing : TI.ok Try.prog 48 _), 
    (ok_implSharedKey : TI.ok Try.prog 77 _), 
    (ok_implSDealing : TI.ok Try.prog 64 _), 
    (ok_lawsGroup : TI.ok Try.prog 23 _), 
    (ok_lawsEqualLog : TI.ok Try.prog 25 _), 
    (ok_lawsDealing : TI.ok Try.prog 54 _), 
    (ok_lawsSharedKey : TI.ok Try.prog 74 _), 
    (ok_lawsSDealing : TI.ok Try.prog 61 _), 
    trivial⟩
theorem Th_ok : ∀ t ti, Th t = some ti → ti.ok Try.prog t := TT_ok.get
end Go.Proofs.Ytjapjmhifoeogaa
