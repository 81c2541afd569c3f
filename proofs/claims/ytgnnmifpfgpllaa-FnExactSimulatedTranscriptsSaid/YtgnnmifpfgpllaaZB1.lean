import Derived.Test.YtgnnmifpfgpllaaZAD
import Derived.Test.YtgnnmifpfgpllaaChecked
/- What is known of the types. -/
set_option linter.all false
set_option linter.unusedVariables false
set_option linter.unusedSimpArgs false
namespace Go.Proofs.Ytgnnmifpfgpllaa
open Go.RowKit
def zeroOf (P : Program) (t : TypeId) : TypeInfo × Value := match P.info? t with
  | some i => (i, i.zero.getD undef)
  | none => (default, undef)
def AllOk (P : Program) : List (Nat × TI) → Prop
  | [] => True
  | (t, ti) :: l => ti.ok P t ∧ AllOk P l
theorem AllOk.get {P : Program} : ∀ {l : List (Nat × TI)}, AllOk P l → ∀ t ti, look l t = some ti → ti.ok P t
  | [], _, t, ti, h => by cases h
  | (k, x) :: l, hl, t, ti, h => by
    simp only [look] at h
    split at h
    · rename_i e; subst e; cases h; exact hl.1
    · exact AllOk.get hl.2 t ti h
theorem ok_int : TI.ok Try.prog 3 ⟨false, [.int .i64 0], [], none, (some .i64), false⟩ :=
  { info := ⟨_, .int .i64 0, (by kernel_rfl : Try.prog.info? 3 = some (zeroOf Try.prog 3).1), (by kernel_rfl), rfl, (by kernel_rfl)⟩
    und := ⟨_, Try.underlying3⟩
    isAgg := fun w => by simp [isAgg, run_underlying Try.underlying3]
    flds := fun h => absurd rfl h
    bld := fun h => by simp at h
    el := fun e y b h => by cases h
    str := fun h => by first | exact Try.underlying3 | cases h
    bl := fun h => by first | exact Try.underlying3 | (simp [TI.bl] at h; done)
    ik := fun k h => by first | (cases h; exact ⟨by simp, Try.underlying3⟩) | cases h }
theorem ok_bool : TI.ok Try.prog 4 ⟨false, [.bool false], [], none, none, false⟩ :=
  { info := ⟨_, .bool false, (by kernel_rfl : Try.prog.info? 4 = some (zeroOf Try.prog 4).1), (by kernel_rfl), rfl, (by kernel_rfl)⟩
    und := ⟨_, Try.underlying4⟩
    isAgg := fun w => by simp [isAgg, run_underlying Try.underlying4]
    flds := fun h => absurd rfl h
    bld := fun h => by simp at h
    el := fun e y b h => by cases h
    str := fun h => by first | exact Try.underlying4 | cases h
    bl := fun h => by first | exact Try.underlying4 | (simp [TI.bl] at h; done)
    ik := fun k h => by first | (cases h; exact ⟨by simp, Try.underlying4⟩) | cases h }
theorem ok_string : TI.ok Try.prog 9 ⟨false, [.string ByteArray.empty], [], none, none, true⟩ :=
  { info := ⟨_, .string ByteArray.empty, (by kernel_rfl : Try.prog.info? 9 = some (zeroOf Try.prog 9).1), (by kernel_rfl), rfl, (by kernel_rfl)⟩
    und := ⟨_, Try.underlying9⟩
    isAgg := fun w => by simp [isAgg, run_underlying Try.underlying9]
    flds := fun h => absurd rfl h
    bld := fun h => by simp at h
    el := fun e y b h => by cases h
    str := fun h => by first | exact Try.underlying9 | cases h
    bl := fun h => by first | exact Try.underlying9 | (simp [TI.bl] at h; done)
    ik := fun k h => by first | (cases h; exact ⟨by simp, Try.underlying9⟩) | cases h }
theorem ok_uint : TI.ok Try.prog 81 ⟨false, [.int .u64 0], [], none, (some .u64), false⟩ :=
  { info := ⟨_, .int .u64 0, (by kernel_rfl : Try.prog.info? 81 = some (zeroOf Try.prog 81).1), (by kernel_rfl), rfl, (by kernel_rfl)⟩
    und := ⟨_, Try.underlying81⟩
    isAgg := fun w => by simp [isAgg, run_underlying Try.underlying81]
    flds := fun h => absurd rfl h
    bld := fun h => by simp at h
    el := fun e y b h => by cases h
    str := fun h => by first | exact Try.underlying81 | cases h
    bl := fun h => by first | exact Try.underlying81 | (simp [TI.bl] at h; done)
    ik := fun k h => by first | (cases h; exact ⟨by simp, Try.underlying81⟩) | cases h }
theorem ok_Sint : TI.ok Try.prog 24 ⟨false, [.slice none 0 0], [], some (3, .int, 8), none, false⟩ :=
  { info := ⟨_, .slice none 0 0, (by kernel_rfl : Try.prog.info? 24 = some (zeroOf Try.prog 24).1), (by kernel_rfl), rfl, (by kernel_rfl)⟩
    und := ⟨_, Try.underlying24⟩
    isAgg := fun w => by simp [isAgg, run_underlying Try.underlying24]
    flds := fun h => absurd rfl h
    bld := fun h => by simp at h
    el := fun e y b h => by
      simp only [Option.some.injEq, Prod.mk.injEq] at h
      obtain ⟨rfl, rfl, rfl⟩ := h
      exact ⟨Try.underlying24, _, (zeroOf Try.prog 3).2, (by kernel_rfl : Try.prog.info? 3 = some (zeroOf Try.prog 3).1), (by kernel_rfl), (by kernel_rfl), (by kernel_rfl), (by kernel_rfl), (by decide), fun W lo => by
        rw [show (zeroOf Try.prog 3).2.cells.toList = [.int .i64 0] from by kernel_rfl]
        exact ⟨rfl, rfl⟩⟩
    str := fun h => by cases h
    bl := fun h => by simp [TI.bl] at h
    ik := fun k h => by cases h }
theorem ok_implGroup : TI.ok Try.prog 34 ⟨true, [.int .i64 0, .int .i64 0, .int .i64 0], [(0, 1, false), (1, 1, false), (2, 1, false)], none, none, false⟩ :=
  { info := ⟨_, .agg #[.int .i64 0, .int .i64 0, .int .i64 0], (by kernel_rfl : Try.prog.info? 34 = some (zeroOf Try.prog 34).1), (by kernel_rfl), rfl, (by kernel_rfl)⟩
    und := ⟨_, Try.underlying34⟩
    isAgg := fun w => by simp [isAgg, run_underlying Try.underlying34]
    flds := fun _ => ⟨_, Try.underlying34, (by kernel_rfl), fun k f g hf hg => by
      rcases k with _ | _ | _ | _
      · simp at hf hg; subst hf hg; exact ⟨by decide, fun w => by simp [isAgg, run_underlying Try.underlying3]⟩
      · simp at hf hg; subst hf hg; exact ⟨by decide, fun w => by simp [isAgg, run_underlying Try.underlying3]⟩
      · simp at hf hg; subst hf hg; exact ⟨by decide, fun w => by simp [isAgg, run_underlying Try.underlying3]⟩
      · simp at hf⟩
    bld := fun _ ps cells w h => by
      have e : (fun (i : Nat) => ([(0, 1), (1, 1), (2, 1)] : List (Nat × Nat))[i]?) = (fun (i : Nat) => (([(0, 1, false), (1, 1, false), (2, 1, false)] : List (Nat × Nat × Bool))[i]?).map fun (g : Nat × Nat × Bool) => (g.1, g.2.1)) := by
        funext i
        rcases i with _ | _ | _ | _ <;> simp
      have hi := (by kernel_rfl : Try.prog.info? 34 = some (zeroOf Try.prog 34).1)
      have hz := (by kernel_rfl : (zeroOf Try.prog 34).1.zero = some (.agg #[.int .i64 0, .int .i64 0, .int .i64 0]))
      have h0 := (by kernel_rfl : Try.prog.info? 3 = some (zeroOf Try.prog 3).1)
      have s0 := (by kernel_rfl : (zeroOf Try.prog 3).1.size = 1)
      have h' : Instr.fill (fun (i : Nat) => ([(0, 1), (1, 1), (2, 1)] : List (Nat × Nat))[i]?) #[.int .i64 0, .int .i64 0, .int .i64 0] ps = some cells := by rw [e]; exact h
      simp [Instr.build, zeroValue, typeInfo, hi, hz, run_underlying Try.underlying34, sizeOf, Value.cells, h0, s0]
      rw [h']
      rfl
    el := fun e y b h => by cases h
    str := fun h => by cases h
    bl := fun h => by simp [TI.bl] at h
    ik := fun k h => by cases h }
theorem ok_implBases : TI.ok Try.prog 36 ⟨true, [.int .i64 0, .slice none 0 0], [(0, 1, false), (1, 1, false)], none, none, false⟩ :=
  { info := ⟨_, .agg #[.int .i64 0, .slice none 0 0], (by kernel_rfl : Try.prog.info? 36 = some (zeroOf Try.prog 36).1), (by kernel_rfl), rfl, (by kernel_rfl)⟩
    und := ⟨_, Try.underlying36⟩
    isAgg := fun w => by simp [isAgg, run_underlying Try.underlying36]
    flds := fun _ => ⟨_, Try.underlying36, (by kernel_rfl), fun k f g hf hg => by
      rcases k with _ | _ | _
      · simp at hf hg; subst hf hg; exact ⟨by decide, fun w => by simp [isAgg, run_underlying Try.underlying3]⟩
      · simp at hf hg; subst hf hg; exact ⟨by decide, fun w => by simp [isAgg, run_underlying Try.underlying24]⟩
      · simp at hf⟩
    bld := fun _ ps cells w h => by
      have e : (fun (i : Nat) => ([(0, 1), (1, 1)] : List (Nat × Nat))[i]?) = (fun (i : Nat) => (([(0, 1, false), (1, 1, false)] : List (Nat × Nat × Bool))[i]?).map fun (g : Nat × Nat × Bool) => (g.1, g.2.1)) := by
        funext i
        rcases i with _ | _ | _ <;> simp
      have hi := (by kernel_rfl : Try.prog.info? 36 = some (zeroOf Try.prog 36).1)
      have hz := (by kernel_rfl : (zeroOf Try.prog 36).1.zero = some (.agg #[.int .i64 0, .slice none 0 0]))
      have h0 := (by kernel_rfl : Try.prog.info? 3 = some (zeroOf Try.prog 3).1)
      have s0 := (by kernel_rfl : (zeroOf Try.prog 3).1.size = 1)
      have h1 := (by kernel_rfl : Try.prog.info? 24 = some (zeroOf Try.prog 24).1)
      have s1 := (by kernel_rfl : (zeroOf Try.prog 24).1.size = 1)
      have h' : Instr.fill (fun (i : Nat) => ([(0, 1), (1, 1)] : List (Nat × Nat))[i]?) #[.int .i64 0, .slice none 0 0] ps = some cells := by rw [e]; exact h
      simp [Instr.build, zeroValue, typeInfo, hi, hz, run_underlying Try.underlying36, sizeOf, Value.cells, h0, s0, h1, s1]
      rw [h']
      rfl
    el := fun e y b h => by cases h
    str := fun h => by cases h
    bl := fun h => by simp [TI.bl] at h
    ik := fun k h => by cases h }
theorem ok_implProof : TI.ok Try.prog 100 ⟨true, [.slice none 0 0, .slice none 0 0, .slice none 0 0], [(0, 1, false), (1, 1, false), (2, 1, false)], none, none, false⟩ :=
  { info := ⟨_, .agg #[.slice none 0 0, .slice none 0 0, .slice none 0 0], (by kernel_rfl : Try.prog.info? 100 = some (zeroOf Try.prog 100).1), (by kernel_rfl), rfl, (by kernel_rfl)⟩
    und := ⟨_, Try.underlying100⟩
    isAgg := fun w => by simp [isAgg, run_underlying Try.underlying100]
    flds := fun _ => ⟨_, Try.underlying100, (by kernel_rfl), fun k f g hf hg => by
      rcases k with _ | _ | _ | _
      · simp at hf hg; subst hf hg; exact ⟨by decide, fun w => by simp [isAgg, run_underlying Try.underlying24]⟩
      · simp at hf hg; subst hf hg; exact ⟨by decide, fun w => by simp [isAgg, run_underlying Try.underlying24]⟩
      · simp at hf hg; subst hf hg; exact ⟨by decide, fun w => by simp [isAgg, run_underlying Try.underlying24]⟩
      · simp at hf⟩
    bld := fun _ ps cells w h => by
      have e : (fun (i : Nat) => ([(0, 1), (1, 1), (2, 1)] : List (Nat × Nat))[i]?) = (fun (i : Nat) => (([(0, 1, false), (1, 1, false), (2, 1, false)] : List (Nat × Nat × Bool))[i]?).map fun (g : Nat × Nat × Bool) => (g.1, g.2.1)) := by
        funext i
        rcases i with _ | _ | _ | _ <;> simp
      have hi := (by kernel_rfl : Try.prog.info? 100 = some (zeroOf Try.prog 100).1)
      have hz := (by kernel_rfl : (zeroOf Try.prog 100).1.zero = some (.agg #[.slice none 0 0, .slice none 0 0, .slice none 0 0]))
      have h0 := (by kernel_rfl : Try.prog.info? 24 = some (zeroOf Try.prog 24).1)
      have s0 := (by kernel_rfl : (zeroOf Try.prog 24).1.size = 1)
      have h' : Instr.fill (fun (i : Nat) => ([(0, 1), (1, 1), (2, 1)] : List (Nat × Nat))[i]?) #[.slice none 0 0, .slice none 0 0, .slice none 0 0] ps = some cells := by rw [e]; exact h
      simp [Instr.build, zeroValue, typeInfo, hi, hz, run_underlying Try.underlying100, sizeOf, Value.cells, h0, s0]
      rw [h']
      rfl
    el := fun e y b h => by cases h
    str := fun h => by cases h
    bl := fun h => by simp [TI.bl] at h
    ik := fun k h => by cases h }
theorem ok_implRangeProof : TI.ok Try.prog 40 ⟨true, [.slice none 0 0, .slice none 0 0], [(0, 1, false), (1, 1, false)], none, none, false⟩ :=
  { info := ⟨_, .agg #[.slice none 0 0, .slice none 0 0], (by kernel_rfl : Try.prog.info? 40 = some (zeroOf Try.prog 40).1), (by kernel_rfl), rfl, (by kernel_rfl)⟩
    und := ⟨_, Try.underlying40⟩
    isAgg := fun w => by simp [isAgg, run_underlying Try.underlying40]
    flds := fun _ => ⟨_, Try.underlying40, (by kernel_rfl), fun k f g hf hg => by
      rcases k with _ | _ | _
      · simp at hf hg; subst hf hg; exact ⟨by decide, fun w => by simp [isAgg, run_underlying Try.underlying24]⟩
      · simp at hf hg; subst hf hg; exact ⟨by decide, fun w => by simp [isAgg, run_underlying Try.underlying38]⟩
      · simp at hf⟩
    bld := fun _ ps cells w h => by
      have e : (fun (i : Nat) => ([(0, 1), (1, 1)] : List (Nat × Nat))[i]?) = (fun (i : Nat) => (([(0, 1, false), (1, 1, false)] : List (Nat × Nat × Bool))[i]?).map fun (g : Nat × Nat × Bool) => (g.1, g.2.1)) := by
        funext i
        rcases i with _ | _ | _ <;> simp
      have hi := (by kernel_rfl : Try.prog.info? 40 = some (zeroOf Try.prog 40).1)
      have hz := (by kernel_rfl : (zeroOf Try.prog 40).1.zero = some (.agg #[.slice none 0 0, .slice none 0 0]))
      have h0 := (by kernel_rfl : Try.prog.info? 24 = some (zeroOf Try.prog 24).1)
      have s0 := (by kernel_rfl : (zeroOf Try.prog 24).1.size = 1)
      have h1 := (by kernel_rfl : Try.prog.info? 38 = some (zeroOf Try.prog 38).1)
      have s1 := (by kernel_rfl : (zeroOf Try.prog 38).1.size = 1)
      have h' : Instr.fill (fun (i : Nat) => ([(0, 1), (1, 1)] : List (Nat × Nat))[i]?) #[.slice none 0 0, .slice none 0 0] ps = some cells := by rw [e]; exact h
      simp [Instr.build, zeroValue, typeInfo, hi, hz, run_underlying Try.underlying40, sizeOf, Value.cells, h0, s0, h1, s1]
      rw [h']
      rfl
    el := fun e y b h => by cases h
    str := fun h => by cases h
    bl := fun h => by simp [TI.bl] at h
    ik := fun k h => by cases h }
theorem ok_implTranscript : TI.ok Try.prog 88 ⟨true, [.int .i64 0, .int .i64 0, .int .i64 0], [(0, 1, false), (1, 1, false), (2, 1, false)], none, none, false⟩ :=
  { info := ⟨_, .agg #[.int .i64 0, .int .i64 0, .int .i64 0], (by kernel_rfl : Try.prog.info? 88 = some (zeroOf Try.prog 88).1), (by kernel_rfl), rfl, (by kernel_rfl)⟩
    und := ⟨_, Try.underlying88⟩
    isAgg := fun w => by simp [isAgg, run_underlying Try.underlying88]
    flds := fun _ => ⟨_, Try.underlying88, (by kernel_rfl), fun k f g hf hg => by
      rcases k with _ | _ | _ | _
      · simp at hf hg; subst hf hg; exact ⟨by decide, fun w => by simp [isAgg, run_underlying Try.underlying3]⟩
      · simp at hf hg; subst hf hg; exact ⟨by decide, fun w => by simp [isAgg, run_underlying Try.underlying3]⟩
      · simp at hf hg; subst hf hg; exact ⟨by decide, fun w => by simp [isAgg, run_underlying Try.underlying3]⟩
      · simp at hf⟩
    bld := fun _ ps cells w h => by
      have e : (fun (i : Nat) => ([(0, 1), (1, 1), (2, 1)] : List (Nat × Nat))[i]?) = (fun (i : Nat) => (([(0, 1, false), (1, 1, false), (2, 1, false)] : List (Nat × Nat × Bool))[i]?).map fun (g : Nat × Nat × Bool) => (g.1, g.2.1)) := by
        funext i
        rcases i with _ | _ | _ | _ <;> simp
      have hi := (by kernel_rfl : Try.prog.info? 88 = some (zeroOf Try.prog 88).1)
      have hz := (by kernel_rfl : (zeroOf Try.prog 88).1.zero = some (.agg #[.int .i64 0, .int .i64 0, .int .i64 0]))
      have h0 := (by kernel_rfl : Try.prog.info? 3 = some (zeroOf Try.prog 3).1)
      have s0 := (by kernel_rfl : (zeroOf Try.prog 3).1.size = 1)
      have h' : Instr.fill (fun (i : Nat) => ([(0, 1), (1, 1), (2, 1)] : List (Nat × Nat))[i]?) #[.int .i64 0, .int .i64 0, .int .i64 0] ps = some cells := by rw [e]; exact h
      simp [Instr.build, zeroValue, typeInfo, hi, hz, run_underlying Try.underlying88, sizeOf, Value.cells, h0, s0]
      rw [h']
      rfl
    el := fun e y b h => by cases h
    str := fun h => by cases h
    bl := fun h => by simp [TI.bl] at h
    ik := fun k h => by cases h }
theorem ok_implSProof : TI.ok Try.prog 38 ⟨false, [.slice none 0 0], [], some (100, (.pair (.list .int) (.pair (.list .int) (.list .int))), 72), none, false⟩ :=
  { info := ⟨_, .slice none 0 0, (by kernel_rfl : Try.prog.info? 38 = some (zeroOf Try.prog 38).1), (by kernel_rfl), rfl, (by kernel_rfl)⟩
    und := ⟨_, Try.underlying38⟩
    isAgg := fun w => by simp [isAgg, run_underlying Try.underlying38]
    flds := fun h => absurd rfl h
    bld := fun h => by simp at h
    el := fun e y b h => by
      simp only [Option.some.injEq, Prod.mk.injEq] at h
      obtain ⟨rfl, rfl, rfl⟩ := h
      exact ⟨Try.underlying38, _, (zeroOf Try.prog 100).2, (by kernel_rfl : Try.prog.info? 100 = some (zeroOf Try.prog 100).1), (by kernel_rfl), (by kernel_rfl), (by kernel_rfl), (by kernel_rfl), (by decide), fun W lo => by
        rw [show (zeroOf Try.prog 100).2.cells.toList = [.slice none 0 0, .slice none 0 0, .slice none 0 0] from by kernel_rfl]
        exact ⟨[.slice none 0 0], [.slice none 0 0, .slice none 0 0], [], [], rfl, rfl, ⟨_, 0, rfl, [], [], rfl, rfl, fun k x u b h => by simp [Ty.dflt] at h, World.ownsRow_nil W lo 0 _, rfl⟩, ⟨[.slice none 0 0], [.slice none 0 0], [], [], rfl, rfl, ⟨_, 0, rfl, [], [], rfl, rfl, fun k x u b h => by simp [Ty.dflt] at h, World.ownsRow_nil W lo 0 _, rfl⟩, ⟨_, 0, rfl, [], [], rfl, rfl, fun k x u b h => by simp [Ty.dflt] at h, World.ownsRow_nil W lo 0 _, rfl⟩⟩⟩⟩
    str := fun h => by cases h
    bl := fun h => by simp [TI.bl] at h
    ik := fun k h => by cases h }
theorem ok_implSTranscript : TI.ok Try.prog 58 ⟨false, [.slice none 0 0], [], some (88, (.pair .int (.pair .int .int)), 24), none, false⟩ :=
  { info := ⟨_, .slice none 0 0, (by kernel_rfl : Try.prog.info? 58 = some (zeroOf Try.prog 58).1), (by kernel_rfl), rfl, (by kernel_rfl)⟩
    und := ⟨_, Try.underlying58⟩
    isAgg := fun w => by simp [isAgg, run_underlying Try.underlying58]
    flds := fun h => absurd rfl h
    bld := fun h => by simp at h
    el := fun e y b h => by
      simp only [Option.some.injEq, Prod.mk.injEq] at h
      obtain ⟨rfl, rfl, rfl⟩ := h
      exact ⟨Try.underlying58, _, (zeroOf Try.prog 88).2, (by kernel_rfl : Try.prog.info? 88 = some (zeroOf Try.prog 88).1), (by kernel_rfl), (by kernel_rfl), (by kernel_rfl), (by kernel_rfl), (by decide), fun W lo => by
        rw [show (zeroOf Try.prog 88).2.cells.toList = [.int .i64 0, .int .i64 0, .int .i64 0] from by kernel_rfl]
        exact ⟨[.int .i64 0], [.int .i64 0, .int .i64 0], [], [], rfl, rfl, ⟨rfl, rfl⟩, ⟨[.int .i64 0], [.int .i64 0], [], [], rfl, rfl, ⟨rfl, rfl⟩, ⟨rfl, rfl⟩⟩⟩⟩
    str := fun h => by cases h
    bl := fun h => by simp [TI.bl] at h
    ik := fun k h => by cases h }
theorem ok_lawsGroup : TI.ok Try.prog 23 ⟨true, [.int .i64 0, .int .i64 0, .int .i64 0], [(0, 1, false), (1, 1, false), (2, 1, false)], none, none, false⟩ :=
  { info := ⟨_, .agg #[.int .i64 0, .int .i64 0, .int .i64 0], (by kernel_rfl : Try.prog.info? 23 = some (zeroOf Try.prog 23).1), (by kernel_rfl), rfl, (by kernel_rfl)⟩
    und := ⟨_, Try.underlying23⟩
    isAgg := fun w => by simp [isAgg, run_underlying Try.underlying23]
    flds := fun _ => ⟨_, Try.underlying23, (by kernel_rfl), fun k f g hf hg => by
      rcases k with _ | _ | _ | _
      · simp at hf hg; subst hf hg; exact ⟨by decide, fun w => by simp [isAgg, run_underlying Try.underlying3]⟩
      · simp at hf hg; subst hf hg; exact ⟨by decide, fun w => by simp [isAgg, run_underlying Try.underlying3]⟩
      · simp at hf hg; subst hf hg; exact ⟨by decide, fun w => by simp [isAgg, run_underlying Try.underlying3]⟩
      · simp at hf⟩
    bld := fun _ ps cells w h => by
      have e : (fun (i : Nat) => ([(0, 1), (1, 1), (2, 1)] : List (Nat × Nat))[i]?) = (fun (i : Nat) => (([(0, 1, false), (1, 1, false), (2, 1, false)] : List (Nat × Nat × Bool))[i]?).map fun (g : Nat × Nat × Bool) => (g.1, g.2.1)) := by
        funext i
        rcases i with _ | _ | _ | _ <;> simp
      have hi := (by kernel_rfl : Try.prog.info? 23 = some (zeroOf Try.prog 23).1)
      have hz := (by kernel_rfl : (zeroOf Try.prog 23).1.zero = some (.agg #[.int .i64 0, .int .i64 0, .int .i64 0]))
      have h0 := (by kernel_rfl : Try.prog.info? 3 = some (zeroOf Try.prog 3).1)
      have s0 := (by kernel_rfl : (zeroOf Try.prog 3).1.size = 1)
      have h' : Instr.fill (fun (i : Nat) => ([(0, 1), (1, 1), (2, 1)] : List (Nat × Nat))[i]?) #[.int .i64 0, .int .i64 0, .int .i64 0] ps = some cells := by rw [e]; exact h
      simp [Instr.build, zeroValue, typeInfo, hi, hz, run_underlying Try.underlying23, sizeOf, Value.cells, h0, s0]
      rw [h']
      rfl
    el := fun e y b h => by cases h
    str := fun h => by cases h
    bl := fun h => by simp [TI.bl] at h
    ik := fun k h => by cases h }
theorem ok_lawsBases : TI.ok Try.prog 26 ⟨true, [.int .i64 0, .slice none 0 0], [(0, 1, false), (1, 1, false)], none, none, false⟩ :=
  { info := ⟨_, .agg #[.int .i64 0, .slice none 0 0], (by kernel_rfl : Try.prog.info? 26 = some (zeroOf Try.prog 26).1), (by kernel_rfl), rfl, (by kernel_rfl)⟩
    und := ⟨_, Try.underlying26⟩
    isAgg := fun w => by simp [isAgg, run_underlying Try.underlying26]
    flds := fun _ => ⟨_, Try.underlying26, (by kernel_rfl), fun k f g hf hg => by
      rcases k with _ | _ | _
      · simp at hf hg; subst hf hg; exact ⟨by decide, fun w => by simp [isAgg, run_underlying Try.underlying3]⟩
      · simp at hf hg; subst hf hg; exact ⟨by decide, fun w => by simp [isAgg, run_underlying Try.underlying24]⟩
      · simp at hf⟩
    bld := fun _ ps cells w h => by
      have e : (fun (i : Nat) => ([(0, 1), (1, 1)] : List (Nat × Nat))[i]?) = (fun (i : Nat) => (([(0, 1, false), (1, 1, false)] : List (Nat × Nat × Bool))[i]?).map fun (g : Nat × Nat × Bool) => (g.1, g.2.1)) := by
        funext i
        rcases i with _ | _ | _ <;> simp
      have hi := (by kernel_rfl : Try.prog.info? 26 = some (zeroOf Try.prog 26).1)
      have hz := (by kernel_rfl : (zeroOf Try.prog 26).1.zero = some (.agg #[.int .i64 0, .slice none 0 0]))
      have h0 := (by kernel_rfl : Try.prog.info? 3 = some (zeroOf Try.prog 3).1)
      have s0 := (by kernel_rfl : (zeroOf Try.prog 3).1.size = 1)
      have h1 := (by kernel_rfl : Try.prog.info? 24 = some (zeroOf Try.prog 24).1)
      have s1 := (by kernel_rfl : (zeroOf Try.prog 24).1.size = 1)
      have h' : Instr.fill (fun (i : Nat) => ([(0, 1), (1, 1)] : List (Nat × Nat))[i]?) #[.int .i64 0, .slice none 0 0] ps = some cells := by rw [e]; exact h
      simp [Instr.build, zeroValue, typeInfo, hi, hz, run_underlying Try.underlying26, sizeOf, Value.cells, h0, s0, h1, s1]
      rw [h']
      rfl
    el := fun e y b h => by cases h
    str := fun h => by cases h
    bl := fun h => by simp [TI.bl] at h
    ik := fun k h => by cases h }
theorem ok_lawsProof : TI.ok Try.prog 96 ⟨true, [.slice none 0 0, .slice none 0 0, .slice none 0 0], [(0, 1, false), (1, 1, false), (2, 1, false)], none, none, false⟩ :=
  { info := ⟨_, .agg #[.slice none 0 0, .slice none 0 0, .slice none 0 0], (by kernel_rfl : Try.prog.info? 96 = some (zeroOf Try.prog 96).1), (by kernel_rfl), rfl, (by kernel_rfl)⟩
    und := ⟨_, Try.underlying96⟩
    isAgg := fun w => by simp [isAgg, run_underlying Try.underlying96]
    flds := fun _ => ⟨_, Try.underlying96, (by kernel_rfl), fun k f g hf hg => by
      rcases k with _ | _ | _ | _
      · simp at hf hg; subst hf hg; exact ⟨by decide, fun w => by simp [isAgg, run_underlying Try.underlying24]⟩
      · simp at hf hg; subst hf hg; exact ⟨by decide, fun w => by simp [isAgg, run_underlying Try.underlying24]⟩
      · simp at hf hg; subst hf hg; exact ⟨by decide, fun w => by simp [isAgg, run_underlying Try.underlying24]⟩
      · simp at hf⟩
    bld := fun _ ps cells w h => by
      have e : (fun (i : Nat) => ([(0, 1), (1, 1), (2, 1)] : List (Nat × Nat))[i]?) = (fun (i : Nat) => (([(0, 1, false), (1, 1, false), (2, 1, false)] : List (Nat × Nat × Bool))[i]?).map fun (g : Nat × Nat × Bool) => (g.1, g.2.1)) := by
        funext i
        rcases i with _ | _ | _ | _ <;> simp
      have hi := (by kernel_rfl : Try.prog.info? 96 = some (zeroOf Try.prog 96).1)
      have hz := (by kernel_rfl : (zeroOf Try.prog 96).1.zero = some (.agg #[.slice none 0 0, .slice none 0 0, .slice none 0 0]))
      have h0 := (by kernel_rfl : Try.prog.info? 24 = some (zeroOf Try.prog 24).1)
      have s0 := (by kernel_rfl : (zeroOf Try.prog 24).1.size = 1)
      have h' : Instr.fill (fun (i : Nat) => ([(0, 1), (1, 1), (2, 1)] : List (Nat × Nat))[i]?) #[.slice none 0 0, .slice none 0 0, .slice none 0 0] ps = some cells := by rw [e]; exact h
      simp [Instr.build, zeroValue, typeInfo, hi, hz, run_underlying Try.underlying96, sizeOf, Value.cells, h0, s0]
      rw [h']
      rfl
    el := fun e y b h => by cases h
    str := fun h => by cases h
    bl := fun h => by simp [TI.bl] at h
    ik := fun k h => by cases h }
theorem ok_lawsRangeProof : TI.ok Try.prog 29 ⟨true, [.slice none 0 0, .slice none 0 0], [(0, 1, false), (1, 1, false)], none, none, false⟩ :=
  { info := ⟨_, .agg #[.slice none 0 0, .slice none 0 0], (by kernel_rfl : Try.prog.info? 29 = some (zeroOf Try.prog 29).1), (by kernel_rfl), rfl, (by kernel_rfl)⟩
    und := ⟨_, Try.underlying29⟩
    isAgg := fun w => by simp [isAgg, run_underlying Try.underlying29]
    flds := fun _ => ⟨_, Try.underlying29, (by kernel_rfl), fun k f g hf hg => by
      rcases k with _ | _ | _
      · simp at hf hg; subst hf hg; exact ⟨by decide, fun w => by simp [isAgg, run_underlying Try.underlying24]⟩
      · simp at hf hg; subst hf hg; exact ⟨by decide, fun w => by simp [isAgg, run_underlying Try.underlying27]⟩
      · simp at hf⟩
    bld := fun _ ps cells w h => by
      have e : (fun (i : Nat) => ([(0, 1), (1, 1)] : List (Nat × Nat))[i]?) = (fun (i : Nat) => (([(0, 1, false), (1, 1, false)] : List (Nat × Nat × Bool))[i]?).map fun (g : Nat × Nat × Bool) => (g.1, g.2.1)) := by
        funext i
        rcases i with _ | _ | _ <;> simp
      have hi := (by kernel_rfl : Try.prog.info? 29 = some (zeroOf Try.prog 29).1)
      have hz := (by kernel_rfl : (zeroOf Try.prog 29).1.zero = some (.agg #[.slice none 0 0, .slice none 0 0]))
      have h0 := (by kernel_rfl : Try.prog.info? 24 = some (zeroOf Try.prog 24).1)
      have s0 := (by kernel_rfl : (zeroOf Try.prog 24).1.size = 1)
      have h1 := (by kernel_rfl : Try.prog.info? 27 = some (zeroOf Try.prog 27).1)
      have s1 := (by kernel_rfl : (zeroOf Try.prog 27).1.size = 1)
      have h' : Instr.fill (fun (i : Nat) => ([(0, 1), (1, 1)] : List (Nat × Nat))[i]?) #[.slice none 0 0, .slice none 0 0] ps = some cells := by rw [e]; exact h
      simp [Instr.build, zeroValue, typeInfo, hi, hz, run_underlying Try.underlying29, sizeOf, Value.cells, h0, s0, h1, s1]
      rw [h']
      rfl
    el := fun e y b h => by cases h
    str := fun h => by cases h
    bl := fun h => by simp [TI.bl] at h
    ik := fun k h => by cases h }
theorem ok_lawsSProof : TI.ok Try.prog 27 ⟨false, [.slice none 0 0], [], some (96, (.pair (.list .int) (.pair (.list .int) (.list .int))), 72), none, false⟩ :=
  { info := ⟨_, .slice none 0 0, (by kernel_rfl : Try.prog.info? 27 = some (zeroOf Try.prog 27).1), (by kernel_rfl), rfl, (by kernel_rfl)⟩
    und := ⟨_, Try.underlying27⟩
    isAgg := fun w => by simp [isAgg, run_underlying Try.underlying27]
    flds := fun h => absurd rfl h
    bld := fun h => by simp at h
    el := fun e y b h => by
      simp only [Option.some.injEq, Prod.mk.injEq] at h
      obtain ⟨rfl, rfl, rfl⟩ := h
      exact ⟨Try.underlying27, _, (zeroOf Try.prog 96).2, (by kernel_rfl : Try.prog.info? 96 = some (zeroOf Try.prog 96).1), (by kernel_rfl), (by kernel_rfl), (by kernel_rfl), (by kernel_rfl), (by decide), fun W lo => by
        rw [show (zeroOf Try.prog 96).2.cells.toList = [.slice none 0 0, .slice none 0 0, .slice none 0 0] from by kernel_rfl]
        exact ⟨[.slice none 0 0], [.slice none 0 0, .slice none 0 0], [], [], rfl, rfl, ⟨_, 0, rfl, [], [], rfl, rfl, fun k x u b h => by simp [Ty.dflt] at h, World.ownsRow_nil W lo 0 _, rfl⟩, ⟨[.slice none 0 0], [.slice none 0 0], [], [], rfl, rfl, ⟨_, 0, rfl, [], [], rfl, rfl, fun k x u b h => by simp [Ty.dflt] at h, World.ownsRow_nil W lo 0 _, rfl⟩, ⟨_, 0, rfl, [], [], rfl, rfl, fun k x u b h => by simp [Ty.dflt] at h, World.ownsRow_nil W lo 0 _, rfl⟩⟩⟩⟩
    str := fun h => by cases h
    bl := fun h => by simp [TI.bl] at h
    ik := fun k h => by cases h }
def TT : List (Nat × TI) := [
  (3, ⟨false, [.int .i64 0], [], none, (some .i64), false⟩),
  (4, ⟨false, [.bool false], [], none, none, false⟩),
  (9, ⟨false, [.string ByteArray.empty], [], none, none, true⟩),
  (81, ⟨false, [.int .u64 0], [], none, (some .u64), false⟩),
  (24, ⟨false, [.slice none 0 0], [], some (3, .int, 8), none, false⟩),
  (34, ⟨true, [.int .i64 0, .int .i64 0, .int .i64 0], [(0, 1, false), (1, 1, false), (2, 1, false)], none, none, false⟩),
  (36, ⟨true, [.int .i64 0, .slice none 0 0], [(0, 1, false), (1, 1, false)], none, none, false⟩),
  (100, ⟨true, [.slice none 0 0, .slice none 0 0, .slice none 0 0], [(0, 1, false), (1, 1, false), (2, 1, false)], none, none, false⟩),
  (40, ⟨true, [.slice none 0 0, .slice none 0 0], [(0, 1, false), (1, 1, false)], none, none, false⟩),
  (88, ⟨true, [.int .i64 0, .int .i64 0, .int .i64 0], [(0, 1, false), (1, 1, false), (2, 1, false)], none, none, false⟩),
  (38, ⟨false, [.slice none 0 0], [], some (100, (.pair (.list .int) (.pair (.list .int) (.list .int))), 72), none, false⟩),
  (58, ⟨false, [.slice none 0 0], [], some (88, (.pair .int (.pair .int .int)), 24), none, false⟩),
  (23, ⟨true, [.int .i64 0, .int .i64 0, .int .i64 0], [(0, 1, false), (1, 1, false), (2, 1, false)], none, none, false⟩),
  (26, ⟨true, [.int .i64 0, .slice none 0 0], [(0, 1, false), (1, 1, false)], none, none, false⟩),
  (96, ⟨true, [.slice none 0 0, .slice none 0 0, .slice none 0 0], [(0, 1, false), (1, 1, false), (2, 1, false)], none, none, false⟩),
  (29, ⟨true, [.slice none 0 0, .slice none 0 0], [(0, 1, false), (1, 1, false)], none, none, false⟩),
  (27, ⟨false, [.slice none 0 0], [], some (96, (.pair (.list .int) (.pair (.list .int) (.list .int))), 72), none, false⟩),
  (1000000, ⟨false, [], [], none, none, false⟩)]
@[reducible] def Th : TypeId → Option TI := fun t => look TT.dropLast t
theorem Th_int : Th 3 = some ⟨false, [.int .i64 0], [], none, (some .i64), false⟩ := rfl
theorem Th_bool : Th 4 = some ⟨false, [.bool false], [], none, none, false⟩ := rfl
theorem Th_string : Th 9 = some ⟨false, [.string ByteArray.empty], [], none, none, true⟩ := rfl
theorem Th_Sint : Th 24 = some ⟨false, [.slice none 0 0], [], some (3, .int, 8), none, false⟩ := rfl
theorem Th_implGroup : Th 34 = some ⟨true, [.int .i64 0, .int .i64 0, .int .i64 0], [(0, 1, false), (1, 1, false), (2, 1, false)], none, none, false⟩ := rfl
theorem Th_implBases : Th 36 = some ⟨true, [.int .i64 0, .slice none 0 0], [(0, 1, false), (1, 1, false)], none, none, false⟩ := rfl
theorem Th_implRangeProof : Th 40 = some ⟨true, [.slice none 0 0, .slice none 0 0], [(0, 1, false), (1, 1, false)], none, none, false⟩ := rfl
theorem Th_implTranscript : Th 88 = some ⟨true, [.int .i64 0, .int .i64 0, .int .i64 0], [(0, 1, false), (1, 1, false), (2, 1, false)], none, none, false⟩ := rfl
theorem Th_implSProof : Th 38 = some ⟨false, [.slice none 0 0], [], some (100, (.pair (.list .int) (.pair (.list .int) (.list .int))), 72), none, false⟩ := rfl
theorem Th_implSTranscript : Th 58 = some ⟨false, [.slice none 0 0], [], some (88, (.pair .int (.pair .int .int)), 24), none, false⟩ := rfl
theorem Th_lawsGroup : Th 23 = some ⟨true, [.int .i64 0, .int .i64 0, .int .i64 0], [(0, 1, false), (1, 1, false), (2, 1, false)], none, none, false⟩ := rfl
theorem Th_lawsBases : Th 26 = some ⟨true, [.int .i64 0, .slice none 0 0], [(0, 1, false), (1, 1, false)], none, none, false⟩ := rfl
theorem Th_lawsProof : Th 96 = some ⟨true, [.slice none 0 0, .slice none 0 0, .slice none 0 0], [(0, 1, false), (1, 1, false), (2, 1, false)], none, none, false⟩ := rfl
theorem Th_lawsRangeProof : Th 29 = some ⟨true, [.slice none 0 0, .slice none 0 0], [(0, 1, false), (1, 1, false)], none, none, false⟩ := rfl
theorem Th_lawsSProof : Th 27 = some ⟨false, [.slice none 0 0], [], some (96, (.pair (.list .int) (.pair (.list .int) (.list .int))), 72), none, false⟩ := rfl
theorem TT_ok : AllOk Try.prog TT.dropLast := by
  unfold TT
  refine ⟨--- int 
    (ok_int : TI.ok Try.prog 3 _), 
    (ok_bool : TI.ok Try.prog 4 _), 
    (ok_string : TI.ok Try.prog 9 _), 
    (ok_uint : TI.ok Try.prog 81 _), 
    (ok_Sint : TI.ok Try.prog 24 _), 
    (ok_implGroup : TI.ok Try.prog 34 _), 
    (ok_implBases : TI.ok Try.prog 36 _), 
    (ok_implProof : TI.ok Try.prog 100 _), 
    (ok_implRangeProof : TI.ok Try.prog 40 _), 
    (ok_implTranscript : TI.ok Try.prog 88 _), 
    (ok_implSProof : TI.ok Try.prog 38 _), 
    (ok_implSTranscript : TI.ok Try.prog 58 _), 
    (ok_lawsGroup : TI.ok Try.prog 23 _), 
    (ok_lawsBases : TI.ok Try.prog 26 _), 
    (ok_lawsProof : TI.ok Try.prog 96 _), 
    (ok_lawsRangeProof : TI.ok Try.prog 29 _), 
    (ok_lawsSProof : TI.ok Try.prog 27 _), 
    trivial⟩
theorem Th_ok : ∀ t ti, Th t = some ti → ti.ok Try.prog t := TT_ok.get
end Go.Proofs.Ytgnnmifpfgpllaa
