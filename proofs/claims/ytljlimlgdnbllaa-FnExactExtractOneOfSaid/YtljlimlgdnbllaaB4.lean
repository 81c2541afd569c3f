import Derived.Test.YtljlimlgdnbllaaB3
import Derived.Test.YtljlimlgdnbllaaAE
/- Arguments in their own form; small steps of abstract walks. -/
set_option linter.all false
set_option linter.unusedVariables false
set_option linter.unusedSimpArgs false
namespace Go.Proofs.Ytljlimlgdnbllaa
open Go.RowKit
section
variable {w : World} {x : AV} {u : Value}
theorem asG_can {p q g : Int} (h : asG x = some (p, q, g)) (hr : Rep (cx0 w) x u) : Rep (cx0 w) (.agg [.lit (.int .i64 p), .lit (.int .i64 q), .lit (.int .i64 g)]) u := by
  unfold asG at h
  split at h
  · cases h; exact hr
  · cases h
theorem asI_can {n : Int} (h : asI x = some n) (hr : Rep (cx0 w) x u) : Rep (cx0 w) (.lit (.int .i64 n)) u := by
  unfold asI at h
  split at h
  · cases h; exact hr
  · cases h
theorem asBo_can {n : Bool} (h : asBo x = some n) (hr : Rep (cx0 w) x u) : Rep (cx0 w) (.lit (.bool n)) u := by
  unfold asBo at h
  split at h
  · cases h; exact hr
  · cases h
theorem asStr_can {n : ByteArray} (h : asStr x = some n) (hr : Rep (cx0 w) x u) : Rep (cx0 w) (.lit (.string n)) u := by
  unfold asStr at h
  split at h
  · cases h; exact hr
  · cases h
theorem asIs_can {xs : List Int} (h : asIs x = some xs) (hr : Rep (cx0 w) x u) : Rep (cx0 w) (.sl .int xs) u := by
  unfold asIs at h
  split at h
  · cases h; exact hr
  · cases h
    rw [hr.lit_eq]
    exact .sl ⟨none, 0, rfl, by simp, by simp, fun h => by simp at h⟩
  · cases h
theorem asBs_can {b : Int} {bs : List Int} (h : asBs x = some (b, bs)) (hr : Rep (cx0 w) x u) : Rep (cx0 w) (.agg [.lit (.int .i64 b), .sl .int bs]) u := by
  unfold asBs at h
  split at h
  · split at h
    · rename_i e1 e2
      cases h
      obtain ⟨us, rfl, h1⟩ := hr.agg_of
      obtain ⟨a, us, rfl, h2, h1⟩ := h1.cons_of
      obtain ⟨b, us, rfl, h3, h1⟩ := h1.cons_of
      rw [h1.nil_of]
      exact Rep.agg' (.cons (asI_can e1 h2) (.cons (asIs_can e2 h3) .nil))
    · cases h
  · cases h
theorem asLL_can {a b : List Int} (h : asLL x = some (a, b)) (hr : Rep (cx0 w) x u) : Rep (cx0 w) (.agg [.sl .int a, .sl .int b]) u := by
  unfold asLL at h
  split at h
  · split at h
    · rename_i e1 e2
      cases h
      obtain ⟨us, rfl, h1⟩ := hr.agg_of
      obtain ⟨a, us, rfl, h2, h1⟩ := h1.cons_of
      obtain ⟨b, us, rfl, h3, h1⟩ := h1.cons_of
      rw [h1.nil_of]
      exact Rep.agg' (.cons (asIs_can e1 h2) (.cons (asIs_can e2 h3) .nil))
    · cases h
  · cases h
theorem asLLL_can {a b c : List Int} (h : asLLL x = some (a, b, c)) (hr : Rep (cx0 w) x u) : Rep (cx0 w) (.agg [.sl .int a, .sl .int b, .sl .int c]) u := by
  unfold asLLL at h
  split at h
  · split at h
    · rename_i e1 e2 e3
      cases h
      obtain ⟨us, rfl, h1⟩ := hr.agg_of
      obtain ⟨a, us, rfl, h2, h1⟩ := h1.cons_of
      obtain ⟨b, us, rfl, h3, h1⟩ := h1.cons_of
      obtain ⟨c, us, rfl, h4, h1⟩ := h1.cons_of
      rw [h1.nil_of]
      exact Rep.agg' (.cons (asIs_can e1 h2) (.cons (asIs_can e2 h3) (.cons (asIs_can e3 h4) .nil)))
    · cases h
  · cases h
theorem asE4_can {a b c d : Int} (h : asE4 x = some (a, b, c, d)) (hr : Rep (cx0 w) x u) : Rep (cx0 w) (.agg [.lit (.int .i64 a), .lit (.int .i64 b), .lit (.int .i64 c), .lit (.int .i64 d)]) u := by
  unfold asE4 at h
  split at h
  · cases h; exact hr
  · cases h
theorem asI3_can {a b c : Int} (h : asI3 x = some (a, b, c)) (hr : Rep (cx0 w) x u) : Rep (cx0 w) (.agg [.lit (.int .i64 a), .lit (.int .i64 b), .lit (.int .i64 c)]) u := by
  unfold asI3 at h
  split at h
  · cases h; exact hr
  · cases h
theorem asI2_can {a b : Int} (h : asI2 x = some (a, b)) (hr : Rep (cx0 w) x u) : Rep (cx0 w) (.agg [.lit (.int .i64 a), .lit (.int .i64 b)]) u := by
  unfold asI2 at h
  split at h
  · cases h; exact hr
  · cases h
end
theorem chal_bd {p q g : Int} (hq : 2 ≤ q) (l : List UInt8) (xs : List Int) : 0 ≤ M.chal p q g l xs ∧ M.chal p q g l xs < q := M.chal_lt hq _ _
theorem gpw_bd {p q x e : Int} (hp : 3 ≤ p) : 0 ≤ M.gpw p q x e ∧ M.gpw p q x e < p := M.gpw_lt hp
theorem mulL_bd' {p : Int} {xs : List Int} (hp : 3 ≤ p) : 0 ≤ M.mulL p xs ∧ M.mulL p xs < p := M.mulL_lt (by omega) xs
theorem cmt_bd {p q g bh m r : Int} (hp : 3 ≤ p) : 0 ≤ cmt p q g bh m r ∧ cmt p q g bh m r < p := ⟨Int.emod_nonneg _ (by omega), Int.emod_lt_of_pos _ (by omega)⟩
theorem bcs_lt' {p q g c k : Int} (hp : 3 ≤ p) (hc : 0 ≤ c ∧ c < p) : 0 ≤ bcs p q g c k ∧ bcs p q g c k < p := bcs_lt hp hc
theorem emod_bd {n q : Int} (hq : 0 < q) : 0 ≤ n % q ∧ n % q < q := ⟨Int.emod_nonneg _ (by omega), Int.emod_lt_of_pos _ hq⟩
theorem mul_bd {a b : Int} (ha : 0 ≤ a ∧ a ≤ 2000000000) (hb : 0 ≤ b ∧ b ≤ 2000000000) : 0 ≤ a * b ∧ a * b ≤ 4000000000000000000 := by
  have h1 := Int.mul_nonneg ha.1 hb.1
  have h2 : a * b ≤ 2000000000 * 2000000000 := Int.mul_le_mul ha.2 hb.2 hb.1 (by omega)
  omega
section
variable {P : Program} {w0 : World} {N : Nat} {σ : AS} {AQ : Exit → AS → Prop}
theorem seqQ_n {b : Code} (h : AWp P w0 N b σ AQ) : seqQ (fun σ' => AWp P w0 N b σ' AQ) AQ .normal σ := h
theorem seqQ_f {f : AS → Prop} (h : f σ) : seqQ f AQ .normal σ := h
theorem seqQ_ret {f : AS → Prop} (h : AQ .ret σ) : seqQ f AQ .ret σ := h
theorem seqQ_exit {f : AS → Prop} {k : Nat} (h : AQ (.exit k) σ) : seqQ f AQ (.exit k) σ := h
theorem blkQ_ret {id : Nat} (h : AQ .ret σ) : blkQ id AQ .ret σ := h
theorem blkQ_n {id : Nat} (h : AQ .normal σ) : blkQ id AQ .normal σ := h
theorem blkQ_exit {id : Nat} (h : AQ .normal σ) : blkQ id AQ (.exit id) σ := by simp only [blkQ, if_true]; exact h
theorem blkQ_other {id k : Nat} (hne : k ≠ id) (h : AQ (.exit k) σ) : blkQ id AQ (.exit k) σ := by simp only [blkQ, if_neg hne]; exact h
end
end Go.Proofs.Ytljlimlgdnbllaa
