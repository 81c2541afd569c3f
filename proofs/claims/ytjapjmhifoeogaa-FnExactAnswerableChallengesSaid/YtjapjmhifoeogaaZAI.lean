import Derived.Test.YtjapjmhifoeogaaZAG
/- Contracts of functions that write rows of their caller's own. -/
set_option linter.all false
set_option linter.unusedVariables false
set_option linter.unusedSimpArgs false
namespace Go.Proofs.Ytjapjmhifoeogaa
open Go.RowKit
/-- element types' ids of some rows -/
@[reducible] def ES : List Ty → Type
  | [] => Unit
  | _ :: ts => TypeId × ES ts
@[reducible] def HR (ts : List Ty) : Type := HL (ts.map Ty.list)
/-- what the walk of such a function must come to -/
def EndsW (Θ : TypeId → Option TI) (rs : List ResultVar) (v : Value) (rows : List AO) (pin : AO) (e : Exit) (σ : AS) : Prop :=
  (e = .normal ∨ e = .ret) ∧ resAV Θ σ rs = some (.lit v) ∧ (∀ (i : Nat) ob, rows[i]? = some ob → σ.obj (1000001 + i) = ob) ∧ σ.obj 1000000 = pin
section
variable {w0 : World} {get : Nat → Option AV} {obj : Nat → AO} {a : Act} {W : World} {ρ : Nat → Value} {β : Nat → List Nat}
end
section
variable {w0 : World} {get : Nat → Option AV} {obj : Nat → AO} {a : Act} {W : World} {ρ : Nat → Value} {β : Nat → List Nat}
end
section
variable {w0 : World} {get : Nat → Option AV} {obj : Nat → AO} {a : Act} {W : World} {ρ : Nat → Value} {β : Nat → List Nat}
end
end Go.Proofs.Ytjapjmhifoeogaa
