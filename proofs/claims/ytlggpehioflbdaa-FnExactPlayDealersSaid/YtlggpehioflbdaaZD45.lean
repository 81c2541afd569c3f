import Derived.Test.YtlggpehioflbdaaZD44
/- Sizes of played dealings. -/
set_option linter.all false
set_option linter.unusedVariables false
set_option linter.unusedSimpArgs false
namespace Go.Proofs.Ytlggpehioflbdaa
open Go.RowKit
theorem szn_leP {t : Ty} {a b : Nat} (xs : List t.den) (h1 : xs.length ≤ a) (h2 : ∀ x ∈ xs, t.szn x ≤ b) : Ty.szn (.list t) xs ≤ a + a * b := by
  have h3 : (xs.map t.szn).sum ≤ xs.length * b := by
    clear h1
    induction xs with
    | nil => simp
    | cons x l ih =>
      have e1 := ih fun y hy => h2 y (by simp [hy])
      have e2 := h2 x (by simp)
      simp only [List.map_cons, List.sum_cons, List.length_cons, Nat.succ_mul]
      omega
  have h4 : xs.length * b ≤ a * b := Nat.mul_le_mul_right _ h1
  show xs.length + (xs.map t.szn).sum ≤ _
  omega
theorem PPd_le (p q g : Int) (cfs : List (List Int)) (fl : List (Int × Int × Int × Bool)) : (PPd p q g cfs fl).length ≤ 7 := by
  unfold PPd; split
  · rename_i h
    rw [PlD_len]; exact (okPl_use h).2.n.2
  · simp
theorem PPa_le (p q g : Int) (cfs : List (List Int)) (fl : List (Int × Int × Int × Bool)) : (PPa p q g cfs fl).length ≤ 7 := by
  unfold PPa; split
  · rename_i h
    rw [PlA_len]; exact (okPl_use h).2.n.2
  · simp
theorem PPd_szn (p q g : Int) (cfs : List (List Int)) (fl : List (Int × Int × Int × Bool)) : Ty.szn (.list (.pair (.list .int) (.list .int))) (PPd p q g cfs fl) ≤ 105 := by
  refine szn_leP (t := .pair (.list .int) (.list .int)) (a := 7) (b := 14) _ (PPd_le p q g cfs fl) fun x hx => ?_
  unfold PPd at hx
  split at hx
  · rename_i h
    obtain ⟨hs, hp⟩ := okPl_use h
    have hG := M.goodB_of (shB_of hs).1
    obtain ⟨k, hk, rfl⟩ := List.mem_map.1 hx
    have hk := List.mem_range.1 hk
    have h1 := (ncB_at hp.nc hk).1
    have h2 := (plS_ok (cfs := cfs) (fl := fl) (k := k) hG.q2).1
    have h3 := hp.n
    have h4 := hp.t
    rw [szn_pl, szn_int, szn_int]
    simp only [plD, dealC_len, h2]
    omega
  · cases hx
theorem PPa_szn (p q g : Int) (cfs : List (List Int)) (fl : List (Int × Int × Int × Bool)) : Ty.szn (.list (.list .int)) (PPa p q g cfs fl) ≤ 56 := by
  refine szn_LL (a := 7) (b := 7) _ (PPa_le p q g cfs fl) fun x hx => ?_
  unfold PPa at hx
  split at hx
  · rename_i h
    obtain ⟨hs, hp⟩ := okPl_use h
    have hG := M.goodB_of (shB_of hs).1
    obtain ⟨k, hk, rfl⟩ := List.mem_map.1 hx
    have h2 := (plS_ok (cfs := cfs) (fl := fl) (k := k) hG.q2).1
    have h3 := hp.n
    have h4 : (plA p q g cfs fl k).length ≤ _ := plN_le
    have h5 := badL_le p q g (dealC p q g (cfs.getD k [])) (plS q cfs fl k)
    omega
  · cases hx
end Go.Proofs.Ytlggpehioflbdaa
