import Derived.Test.YtgnnmifpfgpllaaZB3
import Derived.Test.YtgnnmifpfgpllaaZAE
/- Arguments in their own form; small steps of abstract walks. -/
set_option linter.all false
set_option linter.unusedVariables false
set_option linter.unusedSimpArgs false
namespace Go.Proofs.Ytgnnmifpfgpllaa
open Go.RowKit
section
variable {w : World} {x : AV} {u : Value}
end
theorem chal_bd {p q g : Int} (hq : 2 ≤ q) (l : List UInt8) (xs : List Int) : 0 ≤ M.chal p q g l xs ∧ M.chal p q g l xs < q := M.chal_lt hq _ _
theorem gpw_bd {p q x e : Int} (hp : 3 ≤ p) : 0 ≤ M.gpw p q x e ∧ M.gpw p q x e < p := M.gpw_lt hp
theorem mulL_bd' {p : Int} {xs : List Int} (hp : 3 ≤ p) : 0 ≤ M.mulL p xs ∧ M.mulL p xs < p := M.mulL_lt (by omega) xs
theorem cmt_bd {p q g bh m r : Int} (hp : 3 ≤ p) : 0 ≤ cmt p q g bh m r ∧ cmt p q g bh m r < p := ⟨Int.emod_nonneg _ (by omega), Int.emod_lt_of_pos _ (by omega)⟩
theorem mul_bd {a b : Int} (ha : 0 ≤ a ∧ a ≤ 2000000000) (hb : 0 ≤ b ∧ b ≤ 2000000000) : 0 ≤ a * b ∧ a * b ≤ 4000000000000000000 := by
  have h1 := Int.mul_nonneg ha.1 hb.1
  have h2 : a * b ≤ 2000000000 * 2000000000 := Int.mul_le_mul ha.2 hb.2 hb.1 (by omega)
  omega
section
variable {P : Program} {w0 : World} {N : Nat} {σ : AS} {AQ : Exit → AS → Prop}
theorem seqQ_n {b : Code} (h : AWp P w0 N b σ AQ) : seqQ (fun σ' => AWp P w0 N b σ' AQ) AQ .normal σ := h
theorem seqQ_f {f : AS → Prop} (h : f σ) : seqQ f AQ .normal σ := h
theorem seqQ_ret {f : AS → Prop} (h : AQ .ret σ) : seqQ f AQ .ret σ := h
theorem seqQ_exit {f : AS → Prop} {k : Nat} (h : AQ (.exit k) σ) : seqQ f AQ (.exit k) σ := h
theorem blkQ_ret {id : Nat} (h : AQ .ret σ) : blkQ id AQ .ret σ := h
theorem blkQ_n {id : Nat} (h : AQ .normal σ) : blkQ id AQ .normal σ := h
theorem blkQ_exit {id : Nat} (h : AQ .normal σ) : blkQ id AQ (.exit id) σ := by simp only [blkQ, if_true]; exact h
theorem blkQ_other {id k : Nat} (hne : k ≠ id) (h : AQ (.exit k) σ) : blkQ id AQ (.exit k) σ := by simp only [blkQ, if_neg hne]; exact h
end
end Go.Proofs.Ytgnnmifpfgpllaa
