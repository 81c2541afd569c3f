import Derived.Test.YtlggpehioflbdaaZD40
/- Played dealers. -/
set_option linter.all false
set_option linter.unusedVariables false
set_option linter.unusedSimpArgs false
namespace Go.Proofs.Ytlggpehioflbdaa
open Go.RowKit
/-- one fault upon the shares of dealer j -/
def fltU (q j : Int) (s : List Int) (f : (Int × Int × Int × Bool)) : List Int := if f.1 = j then s.set (f.2.1 - 1).toNat ((s.getD (f.2.1 - 1).toNat 0 + f.2.2.1) % q) else s
def fltS (q j : Int) (fl : List (Int × Int × Int × Bool)) (s : List Int) : List Int := fl.foldl (fltU q j) s
def silU (j : Int) (w : Bool) (f : (Int × Int × Int × Bool)) : Bool := if f.1 = j then (w || !f.2.2.2) else w
/-- dealer j does not answer -/
def silF (j : Int) (fl : List (Int × Int × Int × Bool)) : Bool := fl.foldl (silU j) false
section
variable {q j : Int} {fl : List (Int × Int × Int × Bool)} {s : List Int} {m : Nat}
theorem fltS_step (hm : m < fl.length) : fltS q j (fl.take (m + 1)) s = fltU q j (fltS q j (fl.take m) s) (fl.getD m ((0 : Int), (0 : Int), (0 : Int), false)) := by rw [take_at ((0 : Int), (0 : Int), (0 : Int), false) hm]; simp [fltS, List.foldl_append]
theorem silF_step (hm : m < fl.length) : silF j (fl.take (m + 1)) = silU j (silF j (fl.take m)) (fl.getD m ((0 : Int), (0 : Int), (0 : Int), false)) := by rw [take_at ((0 : Int), (0 : Int), (0 : Int), false) hm]; simp [silF, List.foldl_append]
theorem fltS_t (hm : m < fl.length) (h : (fl.getD m ((0 : Int), (0 : Int), (0 : Int), false)).1 = j) : (fltS q j (fl.take m) s).set ((fl.getD m ((0 : Int), (0 : Int), (0 : Int), false)).2.1 - 1).toNat (((fltS q j (fl.take m) s).getD ((fl.getD m ((0 : Int), (0 : Int), (0 : Int), false)).2.1 - 1).toNat 0 + (fl.getD m ((0 : Int), (0 : Int), (0 : Int), false)).2.2.1) % q) = fltS q j (fl.take (m + 1)) s := by rw [fltS_step hm, fltU, if_pos h]
theorem fltS_f (hm : m < fl.length) (h : ¬ (fl.getD m ((0 : Int), (0 : Int), (0 : Int), false)).1 = j) : fltS q j (fl.take (m + 1)) s = fltS q j (fl.take m) s := by rw [fltS_step hm, fltU, if_neg h]
theorem silF_t (hm : m < fl.length) (h : (fl.getD m ((0 : Int), (0 : Int), (0 : Int), false)).1 = j) : silF j (fl.take (m + 1)) = (silF j (fl.take m) || !(fl.getD m ((0 : Int), (0 : Int), (0 : Int), false)).2.2.2) := by rw [silF_step hm, silU, if_pos h]
theorem silF_f (hm : m < fl.length) (h : ¬ (fl.getD m ((0 : Int), (0 : Int), (0 : Int), false)).1 = j) : silF j (fl.take (m + 1)) = silF j (fl.take m) := by rw [silF_step hm, silU, if_neg h]
theorem fltS_ok (hq : 2 ≤ q) : ∀ (fl : List (Int × Int × Int × Bool)) (s : List Int), (∀ x ∈ s, 0 ≤ x ∧ x < q) → (fltS q j fl s).length = s.length ∧ ∀ x ∈ fltS q j fl s, 0 ≤ x ∧ x < q
  | [], s, h => ⟨rfl, h⟩
  | f :: l, s, h => by
    have h2 : (fltU q j s f).length = s.length ∧ ∀ x ∈ fltU q j s f, 0 ≤ x ∧ x < q := by
      unfold fltU; split
      · exact ⟨by simp, set_bd h (emod_bd (by omega))⟩
      · exact ⟨rfl, h⟩
    have := fltS_ok hq l (fltU q j s f) h2.2
    exact ⟨this.1.trans h2.1, this.2⟩
end
/-- answers -/
def anL (q : Int) (c B : List Int) (w : Bool) (j : Nat) : List Int := if w = true then (B.take j).map (fun i => evL q i c) else []
section
variable {q : Int} {c B : List Int} {w : Bool} {j : Nat}
theorem anL_t (hw : w = true) (hj : j < B.length) : anL q c B w j ++ [evL q (B.getD j 0) c] = anL q c B w (j + 1) := by unfold anL; rw [if_pos hw, if_pos hw, take_at 0 hj]; simp
theorem anL_f (hw : w = false) : anL q c B w (j + 1) = anL q c B w j := by unfold anL; rw [hw]; rfl
theorem anL_0 : anL q c B w 0 = [] := by unfold anL; split <;> simp
theorem anL_le : (anL q c B w j).length ≤ j := by unfold anL; split <;> simp; omega
theorem anL_st (hw : w = true) (hj : j < B.length) : (anL q c B w (j + 1)).length = (anL q c B w j).length + 1 := by rw [← anL_t hw hj]; simp
end
def plS (q : Int) (cfs : List (List Int)) (fl : List (Int × Int × Int × Bool)) (k : Nat) : List Int := fltS q ((k : Int) + 1) fl (dealS q (cfs.getD k []) cfs.length)
/-- a dealing behind faults -/
def plD (p q g : Int) (cfs : List (List Int)) (fl : List (Int × Int × Int × Bool)) (k : Nat) : List Int × List Int := (dealC p q g (cfs.getD k []), plS q cfs fl k)
/-- the first answers of a dealer -/
def plN (p q g : Int) (cfs : List (List Int)) (fl : List (Int × Int × Int × Bool)) (k j : Nat) : List Int := anL q (cfs.getD k []) (badL p q g (dealC p q g (cfs.getD k [])) (plS q cfs fl k)) (!silF ((k : Int) + 1) fl) j
theorem plN_t {p q g : Int} {cfs : List (List Int)} {fl : List (Int × Int × Int × Bool)} {k j : Nat} (hw : silF ((k : Int) + 1) fl = false) (hj : j < (badL p q g (dealC p q g (cfs.getD k [])) (plS q cfs fl k)).length) : plN p q g cfs fl k j ++ [evL q ((badL p q g (dealC p q g (cfs.getD k [])) (plS q cfs fl k)).getD j 0) (cfs.getD k [])] = plN p q g cfs fl k (j + 1) := anL_t (by rw [hw]; rfl) hj
theorem plN_st {p q g : Int} {cfs : List (List Int)} {fl : List (Int × Int × Int × Bool)} {k j : Nat} (hw : silF ((k : Int) + 1) fl = false) (hj : j < (badL p q g (dealC p q g (cfs.getD k [])) (plS q cfs fl k)).length) : (plN p q g cfs fl k (j + 1)).length = (plN p q g cfs fl k j).length + 1 := anL_st (by rw [hw]; rfl) hj
theorem plN_f {p q g : Int} {cfs : List (List Int)} {fl : List (Int × Int × Int × Bool)} {k j : Nat} (hw : silF ((k : Int) + 1) fl = true) : plN p q g cfs fl k (j + 1) = plN p q g cfs fl k j := anL_f (by rw [hw]; rfl)
theorem plN_0 {p q g : Int} {cfs : List (List Int)} {fl : List (Int × Int × Int × Bool)} {k : Nat} : plN p q g cfs fl k 0 = [] := anL_0
theorem plN_le {p q g : Int} {cfs : List (List Int)} {fl : List (Int × Int × Int × Bool)} {k j : Nat} : (plN p q g cfs fl k j).length ≤ j := anL_le
def plA (p q g : Int) (cfs : List (List Int)) (fl : List (Int × Int × Int × Bool)) (k : Nat) : List Int := plN p q g cfs fl k (badL p q g (dealC p q g (cfs.getD k [])) (plS q cfs fl k)).length
def PlD (p q g : Int) (cfs : List (List Int)) (fl : List (Int × Int × Int × Bool)) (k : Nat) : List (List Int × List Int) := (List.range k).map (plD p q g cfs fl)
def PlA (p q g : Int) (cfs : List (List Int)) (fl : List (Int × Int × Int × Bool)) (k : Nat) : List (List Int) := (List.range k).map (plA p q g cfs fl)
section
variable {p q g : Int} {cfs : List (List Int)} {fl : List (Int × Int × Int × Bool)} {k m : Nat}
theorem PlD_len : (PlD p q g cfs fl k).length = k := by simp [PlD]
theorem PlA_len : (PlA p q g cfs fl k).length = k := by simp [PlA]
theorem PlD_step : PlD p q g cfs fl k ++ [(dealC p q g (cfs.getD k []), plS q cfs fl k)] = PlD p q g cfs fl (k + 1) := by simp [PlD, List.range_succ, plD]
theorem PlA_step : PlA p q g cfs fl k ++ [plN p q g cfs fl k (badL p q g (dealC p q g (cfs.getD k [])) (plS q cfs fl k)).length] = PlA p q g cfs fl (k + 1) := by simp [PlA, List.range_succ, plA]
theorem plS_ok (hq : 2 ≤ q) : (plS q cfs fl k).length = cfs.length ∧ ∀ x ∈ plS q cfs fl k, 0 ≤ x ∧ x < q := by
  have := fltS_ok (j := (k : Int) + 1) hq fl (dealS q (cfs.getD k []) cfs.length) (dealS_bd hq)
  rw [dealS_len] at this; exact this
theorem plS_t (hm : m < fl.length) (h : (fl.getD m ((0 : Int), (0 : Int), (0 : Int), false)).1 = (k : Int) + 1) : (plS q cfs (fl.take m) k).set ((fl.getD m ((0 : Int), (0 : Int), (0 : Int), false)).2.1 - 1).toNat (((plS q cfs (fl.take m) k).getD ((fl.getD m ((0 : Int), (0 : Int), (0 : Int), false)).2.1 - 1).toNat 0 + (fl.getD m ((0 : Int), (0 : Int), (0 : Int), false)).2.2.1) % q) = plS q cfs (fl.take (m + 1)) k := fltS_t hm h
theorem plS_f (hm : m < fl.length) (h : ¬ (fl.getD m ((0 : Int), (0 : Int), (0 : Int), false)).1 = (k : Int) + 1) : plS q cfs (fl.take (m + 1)) k = plS q cfs (fl.take m) k := fltS_f hm h
/-- the dealings cut at one -/
theorem PlD_cut (hk : k < cfs.length) : PlD p q g cfs fl cfs.length = (PlD p q g cfs fl cfs.length).take k ++ (dealC p q g (cfs.getD k []), plS q cfs fl k) :: (PlD p q g cfs fl cfs.length).drop (k + 1) := by
  have h1 : k < (PlD p q g cfs fl cfs.length).length := by rw [PlD_len]; exact hk
  have h2 : (PlD p q g cfs fl cfs.length)[k] = (dealC p q g (cfs.getD k []), plS q cfs fl k) := by simp [PlD, plD]
  conv => lhs; rw [← List.take_append_drop k (PlD p q g cfs fl cfs.length), List.drop_eq_getElem_cons h1, h2]
theorem PlD_tk (hk : k < cfs.length) : ((PlD p q g cfs fl cfs.length).take k).length = k := by rw [List.length_take, PlD_len]; omega
theorem PlD_dr (hk : k < cfs.length) : ((PlD p q g cfs fl cfs.length).drop (k + 1)).length = cfs.length - (k + 1) := by rw [List.length_drop, PlD_len]
theorem PlD_next (hm : m < fl.length) (hk : k < cfs.length) (h : (fl.getD m ((0 : Int), (0 : Int), (0 : Int), false)).1 = (k : Int) + 1) : (PlD p q g cfs (fl.take m) cfs.length).take k ++ (dealC p q g (cfs.getD k []), (plS q cfs (fl.take m) k).set ((fl.getD m ((0 : Int), (0 : Int), (0 : Int), false)).2.1 - 1).toNat (((plS q cfs (fl.take m) k).getD ((fl.getD m ((0 : Int), (0 : Int), (0 : Int), false)).2.1 - 1).toNat 0 + (fl.getD m ((0 : Int), (0 : Int), (0 : Int), false)).2.2.1) % q)) :: (PlD p q g cfs (fl.take m) cfs.length).drop (k + 1) = PlD p q g cfs (fl.take (m + 1)) cfs.length := by
  rw [plS_t hm h, PlD_cut (fl := fl.take (m + 1)) hk]
  have key : ∀ j : Nat, j ≠ k → plD p q g cfs (fl.take (m + 1)) j = plD p q g cfs (fl.take m) j := fun j hj => by
    unfold plD; rw [plS_f hm (by omega)]
  have h1 : (PlD p q g cfs (fl.take m) cfs.length).take k = (PlD p q g cfs (fl.take (m + 1)) cfs.length).take k := by
    unfold PlD
    rw [← List.map_take, ← List.map_take]
    refine List.map_congr_left fun j hj => (key j ?_).symm
    rw [List.take_range] at hj
    have := List.mem_range.1 hj
    omega
  have h2 : (PlD p q g cfs (fl.take m) cfs.length).drop (k + 1) = (PlD p q g cfs (fl.take (m + 1)) cfs.length).drop (k + 1) := by
    unfold PlD
    rw [← List.map_drop, ← List.map_drop]
    refine List.map_congr_left fun j hj => (key j ?_).symm
    obtain ⟨i, hi, rfl⟩ := List.mem_iff_getElem.1 hj
    rw [List.getElem_drop, List.getElem_range]
    omega
  rw [h1, h2]
def SlV (fl : List (Int × Int × Int × Bool)) (n : Nat) : List Bool := (List.range n).map fun (j : Nat) => silF ((j : Int) + 1) fl
theorem SlV_len {n : Nat} : (SlV fl n).length = n := by simp [SlV]
theorem SlV_0 {n : Nat} : List.replicate n false = SlV [] n := by
  unfold SlV
  refine List.ext_getElem (by simp) fun i h1 h2 => ?_
  simp [silF]
theorem SlV_at {n : Nat} (hk : k < n) : (SlV fl n).getD k false = silF ((k : Int) + 1) fl := by
  rw [List.getD_eq_getElem?_getD, List.getElem?_eq_getElem (by rw [SlV_len]; exact hk)]; simp [SlV]
theorem SlV_set {n : Nat} (hm : m < fl.length) (h : (fl.getD m ((0 : Int), (0 : Int), (0 : Int), false)).1 = (k : Int) + 1) : (SlV (fl.take m) n).set k (silF ((k : Int) + 1) (fl.take m) || !(fl.getD m ((0 : Int), (0 : Int), (0 : Int), false)).2.2.2) = SlV (fl.take (m + 1)) n := by
  rw [← silF_t hm h]
  refine List.ext_getElem (by simp [SlV]) fun i h1 h2 => ?_
  rw [List.getElem_set]
  simp only [SlV, List.getElem_map, List.getElem_range]
  split
  · rename_i e; subst e; rfl
  · rw [silF_f hm (by omega)]
theorem SlV_t {n : Nat} (hm : m < fl.length) (h : (fl.getD m ((0 : Int), (0 : Int), (0 : Int), false)).1 = (k : Int) + 1) (hs : silF ((k : Int) + 1) (fl.take m) = true) : (SlV (fl.take m) n).set k true = SlV (fl.take (m + 1)) n := by rw [← SlV_set hm h, hs]; rfl
theorem SlV_f {n : Nat} (hm : m < fl.length) (h : (fl.getD m ((0 : Int), (0 : Int), (0 : Int), false)).1 = (k : Int) + 1) (hs : silF ((k : Int) + 1) (fl.take m) = false) : (SlV (fl.take m) n).set k (!(fl.getD m ((0 : Int), (0 : Int), (0 : Int), false)).2.2.2) = SlV (fl.take (m + 1)) n := by rw [← SlV_set hm h, hs]; rfl
end
def ncB (q : Int) (cfs : List (List Int)) (c : List Int) : Bool := !((c.length : Int) == (cfs.getD 0 []).length) || !expsB q c
def nfB (q n : Int) (f : (Int × Int × Int × Bool)) : Bool := !inr f.1 1 n || !inr f.2.1 1 n || !inr f.2.2.1 0 (q - 1)
def apB (q : Int) (cfs : List (List Int)) (fl : List (Int × Int × Int × Bool)) : Bool := inr cfs.length 1 7 && inr (cfs.getD 0 []).length 1 cfs.length && !(decide ((20 : Int) < (fl.length : Int))) && !(cfs.any (ncB q cfs)) && !(fl.any (nfB q cfs.length))
noncomputable def okPl (p q g : Int) (cfs : List (List Int)) (fl : List (Int × Int × Int × Bool)) : Bool := shB p q g && apB q cfs fl
theorem ncB_at {q : Int} {cfs : List (List Int)} (h : cfs.any (ncB q cfs) = false) {k : Nat} (hk : k < cfs.length) : (cfs.getD k []).length = (cfs.getD 0 []).length ∧ ∀ x ∈ cfs.getD k [], 0 ≤ x ∧ x < q := by
  have := List.any_eq_false.1 h _ (getD_in [] hk)
  simp only [ncB, Bool.or_eq_true, Bool.not_eq_true', not_or, Bool.not_eq_false, beq_iff_eq] at this
  exact ⟨by omega, fun x hx => expsB_mem this.2 hx⟩
theorem nfB_at {q n : Int} {fl : List (Int × Int × Int × Bool)} (h : fl.any (nfB q n) = false) {m : Nat} (hm : m < fl.length) : (1 ≤ (fl.getD m ((0 : Int), (0 : Int), (0 : Int), false)).1 ∧ (fl.getD m ((0 : Int), (0 : Int), (0 : Int), false)).1 ≤ n) ∧ (1 ≤ (fl.getD m ((0 : Int), (0 : Int), (0 : Int), false)).2.1 ∧ (fl.getD m ((0 : Int), (0 : Int), (0 : Int), false)).2.1 ≤ n) ∧ (0 ≤ (fl.getD m ((0 : Int), (0 : Int), (0 : Int), false)).2.2.1 ∧ (fl.getD m ((0 : Int), (0 : Int), (0 : Int), false)).2.2.1 < q) := by
  have := List.any_eq_false.1 h _ (getD_in ((0 : Int), (0 : Int), (0 : Int), false) hm)
  simp only [nfB, Bool.or_eq_true, Bool.not_eq_true', not_or, Bool.not_eq_false] at this
  have h1 := inr_t this.1.1
  have h2 := inr_t this.1.2
  have h3 := inr_t this.2
  exact ⟨h1, h2, by omega⟩
theorem nfB_1 {q n : Int} {f : (Int × Int × Int × Bool)} (h : inr f.1 1 n = false) : nfB q n f = true := by unfold nfB; rw [h]; rfl
theorem nfB_2 {q n : Int} {f : (Int × Int × Int × Bool)} (h : inr f.2.1 1 n = false) : nfB q n f = true := by unfold nfB; rw [h]; simp
theorem nfB_3 {q n : Int} {f : (Int × Int × Int × Bool)} (h : inr f.2.2.1 0 (q - 1) = false) : nfB q n f = true := by unfold nfB; rw [h]; simp
theorem nfB_0 {q n : Int} {f : (Int × Int × Int × Bool)} (h1 : inr f.1 1 n = true) (h2 : inr f.2.1 1 n = true) (h3 : inr f.2.2.1 0 (q - 1) = true) : nfB q n f = false := by unfold nfB; rw [h1, h2, h3]; rfl
theorem ncB_1 {q : Int} {cfs : List (List Int)} {c : List Int} (h : ((c.length : Int) == (cfs.getD 0 []).length) = false) : ncB q cfs c = true := by unfold ncB; rw [h]; rfl
theorem ncB_2 {q : Int} {cfs : List (List Int)} {c : List Int} (h : expsB q c = false) : ncB q cfs c = true := by unfold ncB; rw [h]; simp
theorem ncB_0 {q : Int} {cfs : List (List Int)} {c : List Int} (h1 : ((c.length : Int) == (cfs.getD 0 []).length) = true) (h2 : expsB q c = true) : ncB q cfs c = false := by unfold ncB; rw [h1, h2]; rfl
structure PIn (q : Int) (cfs : List (List Int)) (fl : List (Int × Int × Int × Bool)) : Prop where
  n : 1 ≤ cfs.length ∧ cfs.length ≤ 7
  t : 1 ≤ (cfs.getD 0 []).length ∧ (cfs.getD 0 []).length ≤ cfs.length
  f20 : fl.length ≤ 20
  nc : cfs.any (ncB q cfs) = false
  nf : fl.any (nfB q cfs.length) = false
theorem apB_use {q : Int} {cfs : List (List Int)} {fl : List (Int × Int × Int × Bool)} (h : apB q cfs fl = true) : PIn q cfs fl := by
  simp only [apB, Bool.and_eq_true, Bool.not_eq_true', decide_eq_false_iff_not] at h
  obtain ⟨⟨⟨⟨h1, h2⟩, h3⟩, h4⟩, h5⟩ := h
  have h1 := inr_t h1
  have h2 := inr_t h2
  exact ⟨by omega, by omega, by omega, h4, h5⟩
noncomputable def PPd (p q g : Int) (cfs : List (List Int)) (fl : List (Int × Int × Int × Bool)) : List (List Int × List Int) := if okPl p q g cfs fl = true then PlD p q g cfs fl cfs.length else []
noncomputable def PPa (p q g : Int) (cfs : List (List Int)) (fl : List (Int × Int × Int × Bool)) : List (List Int) := if okPl p q g cfs fl = true then PlA p q g cfs fl cfs.length else []
theorem okPl_use {p q g : Int} {cfs : List (List Int)} {fl : List (Int × Int × Int × Bool)} (h : okPl p q g cfs fl = true) : shB p q g = true ∧ PIn q cfs fl := by
  simp only [okPl, Bool.and_eq_true] at h
  exact ⟨h.1, apB_use h.2⟩
theorem expsB_1 {q r : Int} : expsB q [r] = inr r 0 (q - 1) := by simp [expsB]
def m_ncP : List AV → Option (List Int × List (List Int) × Int × Int × Int)
  | [.sl .int c, .rp [.sl (.list .int) cfs], .rp [.lit (.int .i64 p), .lit (.int .i64 q), .lit (.int .i64 g)]] => some (c, cfs, p, q, g)
  | _ => none
noncomputable def c_ncP : Con0 := conR m_ncP fun ((c, cfs, p, q, g) : List Int × List (List Int) × Int × Int × Int) => (M.Grp p q g ∧ 0 < cfs.length, .lit (.bool (ncB q cfs c)), [])
noncomputable def G_ncP : List (FuncId × Con) := [(110, mk c_areExps)]
theorem G_ncP_ok : ∀ f C, (f, C) ∈ G_ncP → C.ok Try.prog f := by
  intro f C h
  simp only [G_ncP, List.mem_cons, Prod.mk.injEq, List.not_mem_nil, or_false] at h
  obtain ⟨rfl, rfl⟩ := h
  exact ok_areExps
set_option maxRecDepth 100000 in
set_option maxHeartbeats 4000000 in
theorem ok_ncP : (mk c_ncP).ok Try.prog 149 := okR (Θ := Th) (N := 18) (rs := [.tmp 4]) Th_ok Try.func149 (by kernel_rfl) rfl Try.results149 (by decide) (by kernel_rfl) (fun ((c, cfs, p, q, g) : List Int × List (List Int) × Int × Int × Int) => [.sl .int c, .rp [.sl (.list .int) cfs], .rp [.lit (.int .i64 p), .lit (.int .i64 q), .lit (.int .i64 g)]]) (fun args d h => by unfold m_ncP at h; split at h <;> cases h; rfl) fun ((c, cfs, p, q, g) : List Int × List (List Int) × Int × Int × Int) => ⟨rfl, rfl, Nat.le_of_ble_eq_true rfl, fun hc w0 => by
  have hL := dmy_eq
  try dsimp only at hc
  try dsimp only
  obtain ⟨hG, hc0⟩ := hc
  have hq2 := hG.q2
  have hqp := hG.qp
  have hp3 := hG.p3
  have hpM := hG.pM
  have hgb : 0 ≤ g ∧ g < p := ⟨by have := hG.g2; omega, hG.gp⟩
  refine AWp.body rfl ?_
  repeat' first
    | ((with_reducible refine hK _ _ ?_); clear hK K)
    | ((with_reducible refine hK _ _ (by kernel_rfl) ?_); clear hK K)
    | ((with_reducible refine AWp.pS Th_ok G_ncP_ok [0, 1, 2, 4] (by decide) ?_); intro K hK)
    | ((with_reducible refine AWp.dS (by kernel_rfl) Th_ok G_ncP_ok [0, 1, 2, 4] ?_); intro K hK)
    | ((with_reducible refine AWp.pE Th_ok G_ncP_ok [0, 1, 2, 4] (by decide) ?_); intro K hK)
    | ((with_reducible refine AWp.dE (by kernel_rfl) Th_ok G_ncP_ok [0, 1, 2, 4] ?_); intro K hK)
    | ((first | with_reducible refine runF_id ?_ | with_reducible refine stepF_id ?_); simp (maxSteps := 2000000) only [runF, stepF, forkOf, gdOf, List.toList_toArray, stepOp, look, opAV, pureOp, callOp, memOp, AS.ev, AS.get, AS.obj, initS, initFrom, AV.cells, AS.upd, Option.bind_some, Option.bind_none, Option.map_some, Option.map_none, Option.getD_none, Option.getD_some, ↓reduceIte, Nat.reduceEqDiff, Nat.reduceAdd, Nat.reduceMul, Nat.reduceSub, List.nil_append, List.append_nil, List.cons_append, List.map_cons, List.map_nil, true_and, and_true, AS.fin, pick, dedup, List.mem_cons, List.not_mem_nil, or_false, false_or, List.size_toArray, List.length_cons, List.length_nil, loadAV, List.drop_zero, List.drop_succ_cons, List.take_zero, List.take_succ_cons, List.getElem?_cons_zero, List.getElem?_cons_succ, List.head?_cons, List.mapM_cons, List.mapM_nil, Option.bind_eq_bind, Option.pure_def, deeps3, deep3, deep2, deep1, deeps, deeps2, mixInts, AV.plain, mk, mkD, DCon.lift, DCon.runC, ren3, ren2, ren1, numb, List.zipIdx_nil, List.zipIdx_cons, List.all_nil, List.all_cons, Nat.reduceLeDiff, List.range, List.range.loop, Ty.sz, beq_self_eq_true, Bool.and_self, and_self, Ty.ofC, AO.isDead, Nat.reduceLT, if_true, Nat.zero_add, Nat.add_zero, ite_true, Nat.le_refl, Bool.false_eq_true, reduceCtorEq, if_false, ite_false, binAV, AO.ren, AV.isCell, fillAV, List.set_cons_zero, List.set_cons_succ, Ty.cells, Ty.flat, Ty.dflt, List.getD_cons_zero, List.getD_cons_succ, Int.reduceToNat, Int.reduceSub, Int.reduceAdd, Int.reduceMul, Int.reduceNeg, forall_eq_or_imp, forall_eq, gdL, id_eq, Nat.lt_irrefl, srcOf, List.replicate_succ, List.replicate_zero, dite_true, List.isEmpty_cons, Option.isSome_some, List.length_append, List.length_singleton, bne_self_eq_false, Bool.not_true, Bool.not_false, conF, asArgs, asArg, asTy, asI1, asB1, asS1, asL1, canons, canon, Fork.true_, Fork.false_, bne, Bool.not_not, List.length_map, pickO, AS.over, TI.bl, bne_iff_ne, AS.over2, without, keys, List.mem_singleton, memOp2, memOp3, absorb, abInt, abBool, abStr, abList, gones, Int.toNat_natCast, List.take_length, subE, List.nodup_cons, List.nodup_nil, not_false_eq_true, Nat.sub_self, conR, asG, asI, asBo, asStr, asIs, asBs, asE4, asI2, asI3, asLL, asLLL, Th_int, Th_SSint, Th_Sint, Th_bool, Th_implGroup, Th_string, G_ncP, c_areExps, hL])
    | ((with_reducible refine ens_step ?_ (fun hE => ?_)); · ((repeat' with_reducible apply And.intro) <;> first | with_reducible assumption | omega | exact True.intro | with_reducible rfl | (show ByteArray.size _ ≤ _; decide) | (simp; done) | (simp; omega) | rfl))
    | ((with_reducible refine And.intro ?_ ?_); · ((repeat' with_reducible apply And.intro) <;> first | with_reducible assumption | omega | exact True.intro | with_reducible rfl | (show ByteArray.size _ ≤ _; decide) | (simp; done) | (simp; omega) | rfl))
    | ((with_reducible refine Fork.intro (fun h' => ?_) (fun h' => ?_)) <;> (try simp only [Bool.not_eq_true', Bool.not_eq_false', bne] at h') <;> (replace hL := And.intro h' hL) <;> (try simp only [decide_eq_true_eq, decide_eq_false_iff_not, beq_iff_eq, beq_eq_false_iff_ne, ne_eq] at h'))
    | (with_reducible refine AWp.skipS ?_)
    | ((with_reducible refine AWp.condT rfl ?_))
    | ((with_reducible refine AWp.condF rfl ?_))
    | (with_reducible refine AWp.condB rfl ?_)
    | (with_reducible refine AWp.ret ?_)
    | (with_reducible refine seqQ_n ?_)
    | (with_reducible refine seqQ_ret ?_)
    | (with_reducible refine blkQ_ret ?_)
    | (with_reducible refine blkQ_n ?_)
    | (with_reducible refine seqQ_exit ?_)
    | (with_reducible refine blkQ_exit ?_)
    | (with_reducible refine blkQ_other (by decide) ?_)
    | (with_reducible refine AWp.block ?_)
    | (with_reducible refine AWp.exit ?_)
    | (with_reducible refine AWp.skip ?_)
    | ((with_reducible refine EndsAt_id ?_); (try subst_vars); (try simp only [ncB, hL, List.length_cons, List.length_nil, Nat.zero_add, Nat.reduceAdd, Bool.and_true, Bool.and_false, Bool.true_and, Bool.false_and, Bool.and_self, ↓reduceIte, Bool.false_eq_true, Bool.not_true, Bool.not_false, bne]); refine EndsAt.done [] (by first | exact .inr rfl | exact .inl rfl) rfl rfl ?_ ?_ <;> first | decide | (repeat' (first | rfl | apply And.intro | trivial)))
    | (with_reducible refine AWp.seq ?_)⟩
def m_ncCI : List AV → Option (List (List Int) × List (List Int) × Int × Int × Int)
  | [.sl (.list .int) xs, .fn (.func 149) [.rp [.sl (.list .int) cfs], .rp [.lit (.int .i64 p), .lit (.int .i64 q), .lit (.int .i64 g)]]] => some (xs, cfs, p, q, g)
  | _ => none
noncomputable def c_ncCI : Con0 := conR m_ncCI fun ((xs, cfs, p, q, g) : List (List Int) × List (List Int) × Int × Int × Int) => (xs.length ≤ 9223372036854775806 ∧ (M.Grp p q g ∧ 0 < cfs.length), .lit (.int .i64 (idxF (ncB q cfs) xs 0)), [])
noncomputable def G_ncCI : List (FuncId × Con) := [(149, mk c_ncP)]
theorem G_ncCI_ok : ∀ f C, (f, C) ∈ G_ncCI → C.ok Try.prog f := by
  intro f C h
  simp only [G_ncCI, List.mem_cons, Prod.mk.injEq, List.not_mem_nil, or_false] at h
  obtain ⟨rfl, rfl⟩ := h
  exact ok_ncP
set_option maxRecDepth 100000 in
set_option maxHeartbeats 4000000 in
theorem ok_ncCI : (mk c_ncCI).ok Try.prog 183 := okR (Θ := Th) (N := 19) (rs := [.tmp 4]) Th_ok Try.func183 (by kernel_rfl) rfl Try.results183 (by decide) (by kernel_rfl) (fun ((xs, cfs, p, q, g) : List (List Int) × List (List Int) × Int × Int × Int) => [.sl (.list .int) xs, .fn (.func 149) [.rp [.sl (.list .int) cfs], .rp [.lit (.int .i64 p), .lit (.int .i64 q), .lit (.int .i64 g)]]]) (fun args d h => by unfold m_ncCI at h; split at h <;> cases h; rfl) fun ((xs, cfs, p, q, g) : List (List Int) × List (List Int) × Int × Int × Int) => ⟨rfl, rfl, Nat.le_of_ble_eq_true rfl, fun hc w0 => by
  have hL := dmy_eq
  try dsimp only at hc
  try dsimp only
  obtain ⟨hxl, hcc⟩ := hc
  obtain ⟨hG, hc0⟩ := hcc
  refine AWp.body rfl ?_
  repeat' first
    | ((with_reducible refine hK _ _ ?_); clear hK K)
    | ((with_reducible refine hK _ _ (by kernel_rfl) ?_); clear hK K)
    | ((with_reducible refine AWp.pS Th_ok G_ncCI_ok [0, 1, 4, 5, 7, 8, 9, 16] (by decide) ?_); intro K hK)
    | ((with_reducible refine AWp.dS (by kernel_rfl) Th_ok G_ncCI_ok [0, 1, 4, 5, 7, 8, 9, 16] ?_); intro K hK)
    | ((with_reducible refine AWp.pE Th_ok G_ncCI_ok [0, 1, 4, 5, 7, 8, 9, 16] (by decide) ?_); intro K hK)
    | ((with_reducible refine AWp.dE (by kernel_rfl) Th_ok G_ncCI_ok [0, 1, 4, 5, 7, 8, 9, 16] ?_); intro K hK)
    | ((first | with_reducible refine runF_id ?_ | with_reducible refine stepF_id ?_); simp (maxSteps := 2000000) only [runF, stepF, forkOf, gdOf, List.toList_toArray, stepOp, look, opAV, pureOp, callOp, memOp, AS.ev, AS.get, AS.obj, initS, initFrom, AV.cells, AS.upd, Option.bind_some, Option.bind_none, Option.map_some, Option.map_none, Option.getD_none, Option.getD_some, ↓reduceIte, Nat.reduceEqDiff, Nat.reduceAdd, Nat.reduceMul, Nat.reduceSub, List.nil_append, List.append_nil, List.cons_append, List.map_cons, List.map_nil, true_and, and_true, AS.fin, pick, dedup, List.mem_cons, List.not_mem_nil, or_false, false_or, List.size_toArray, List.length_cons, List.length_nil, loadAV, List.drop_zero, List.drop_succ_cons, List.take_zero, List.take_succ_cons, List.getElem?_cons_zero, List.getElem?_cons_succ, List.head?_cons, List.mapM_cons, List.mapM_nil, Option.bind_eq_bind, Option.pure_def, deeps3, deep3, deep2, deep1, deeps, deeps2, mixInts, AV.plain, mk, mkD, DCon.lift, DCon.runC, ren3, ren2, ren1, numb, List.zipIdx_nil, List.zipIdx_cons, List.all_nil, List.all_cons, Nat.reduceLeDiff, List.range, List.range.loop, Ty.sz, beq_self_eq_true, Bool.and_self, and_self, Ty.ofC, AO.isDead, Nat.reduceLT, if_true, Nat.zero_add, Nat.add_zero, ite_true, Nat.le_refl, Bool.false_eq_true, reduceCtorEq, if_false, ite_false, binAV, AO.ren, AV.isCell, fillAV, List.set_cons_zero, List.set_cons_succ, Ty.cells, Ty.flat, Ty.dflt, List.getD_cons_zero, List.getD_cons_succ, Int.reduceToNat, Int.reduceSub, Int.reduceAdd, Int.reduceMul, Int.reduceNeg, forall_eq_or_imp, forall_eq, gdL, id_eq, Nat.lt_irrefl, srcOf, List.replicate_succ, List.replicate_zero, dite_true, List.isEmpty_cons, Option.isSome_some, List.length_append, List.length_singleton, bne_self_eq_false, Bool.not_true, Bool.not_false, conF, asArgs, asArg, asTy, asI1, asB1, asS1, asL1, canons, canon, Fork.true_, Fork.false_, bne, Bool.not_not, List.length_map, pickO, AS.over, TI.bl, bne_iff_ne, AS.over2, without, keys, List.mem_singleton, memOp2, memOp3, absorb, abInt, abBool, abStr, abList, gones, Int.toNat_natCast, List.take_length, subE, List.nodup_cons, List.nodup_nil, not_false_eq_true, Nat.sub_self, conR, asG, asI, asBo, asStr, asIs, asBs, asE4, asI2, asI3, asLL, asLLL, Th_int, Th_SSint, Th_Sint, G_ncCI, c_ncP, m_ncP, hL])
    | ((with_reducible refine ens_step ?_ (fun hE => ?_)); · ((repeat' with_reducible apply And.intro) <;> first | with_reducible assumption | omega | exact True.intro | with_reducible rfl | (show ByteArray.size _ ≤ _; decide) | (simp; done) | (simp; omega) | rfl))
    | ((with_reducible refine And.intro ?_ ?_); · ((repeat' with_reducible apply And.intro) <;> first | with_reducible assumption | omega | exact True.intro | with_reducible rfl | (show ByteArray.size _ ≤ _; decide) | (simp; done) | (simp; omega) | rfl))
    | ((with_reducible refine Fork.intro (fun h' => ?_) (fun h' => ?_)) <;> (try simp only [Bool.not_eq_true', Bool.not_eq_false', bne] at h') <;> (replace hL := And.intro h' hL) <;> (try simp only [decide_eq_true_eq, decide_eq_false_iff_not, beq_iff_eq, beq_eq_false_iff_ne, ne_eq] at h') <;> (try (have hnx := ixf_next (p := ncB q cfs) (d := []) (xs := xs) (k := k) (by omega) h'; rw [hnx] at hk2)) <;> (try (have hke : k = xs.length := (by omega); subst hke)))
    | (with_reducible refine AWp.skipS ?_)
    | ((with_reducible refine AWp.condT rfl ?_))
    | ((with_reducible refine AWp.condF rfl ?_))
    | (with_reducible refine AWp.condB rfl ?_)
    | (with_reducible refine AWp.ret ?_)
    | (with_reducible refine seqQ_n ?_)
    | (with_reducible refine seqQ_ret ?_)
    | (with_reducible refine blkQ_ret ?_)
    | (with_reducible refine blkQ_n ?_)
    | (with_reducible refine seqQ_exit ?_)
    | (with_reducible refine blkQ_exit ?_)
    | (with_reducible refine blkQ_other (by decide) ?_)
    | (with_reducible refine AWp.block ?_)
    | (with_reducible refine AWp.exit ?_)
    | (with_reducible refine AWp.skip ?_)
    | ((with_reducible refine loop_id ?_); refine AWp.loopAt 2 rfl ?_; refine AWp.loopO [4, 5, 8, 9, 10, 11, 12, 13, 14, 15, 16, 17, 18] (fun k => [(8, .lit (.int .i64 (k : Nat)))]) (fun k => []) (fun k => k ≤ xs.length ∧ idxF (ncB q cfs) xs 0 = idxF (ncB q cfs) (xs.drop k) k) (fun k => xs.length - k) 0 (by exact ⟨by omega, by simp⟩) (by refine Sub.auto (by first | exact frok0 | assumption) rfl rfl ?_ ?_ <;> (try simp only [subE, AS.over2, without, keys, look, List.cons_append, List.nil_append, List.append_nil, List.mem_cons, List.not_mem_nil, or_false, or_true, true_or, false_or, Nat.reduceEqDiff, ↓reduceIte, Option.some.injEq, AV.lit.injEq, Value.int.injEq, Value.bool.injEq, AV.own.injEq, AO.row.injEq, AO.box.injEq, List.cons.injEq, AV.agg.injEq, AV.sl.injEq, true_and, and_true, and_self, heq_eq_eq, List.length_nil, List.length_cons, List.map_nil, List.take_zero, Int.natCast_add, Int.cast_ofNat_Int, Int.natCast_zero, List.length_append, List.length_map, List.length_take, Nat.zero_add]) <;> (simp)) (fun k hk_2 L2 hLoop2 => ?_); obtain ⟨hk1, hk2⟩ := hk_2)
    | ((with_reducible refine seqQ_f ?_); refine hLoop2 (k + 1) _ (by exact ⟨by omega, hk2⟩) (by omega) ?_; (refine Sub.auto (by first | exact frok0 | assumption) rfl rfl ?_ ?_ <;> (try simp only [subE, AS.over2, without, keys, look, List.cons_append, List.nil_append, List.append_nil, List.mem_cons, List.not_mem_nil, or_false, or_true, true_or, false_or, Nat.reduceEqDiff, ↓reduceIte, Option.some.injEq, AV.lit.injEq, Value.int.injEq, Value.bool.injEq, AV.own.injEq, AO.row.injEq, AO.box.injEq, List.cons.injEq, AV.agg.injEq, AV.sl.injEq, true_and, and_true, and_self, heq_eq_eq, List.length_nil, List.length_cons, List.map_nil, List.take_zero, Int.natCast_add, Int.cast_ofNat_Int, Int.natCast_zero, List.length_append, List.length_map, List.length_take, Nat.zero_add]) <;> (omega)))
    | ((with_reducible refine EndsAt_id ?_); (try subst_vars); first | (rw [hk2, ixf_hit (p := ncB q cfs) (d := []) (by omega) h']; refine EndsAt.done [] (by first | exact .inr rfl | exact .inl rfl) rfl rfl (by decide) trivial) | (rw [hk2, ixf_end]; refine EndsAt.done [] (by first | exact .inr rfl | exact .inl rfl) rfl rfl (by decide) trivial))
    | (with_reducible refine AWp.seq ?_)⟩
def m_ncC : List AV → Option (List (List Int) × List (List Int) × Int × Int × Int)
  | [.sl (.list .int) xs, .fn (.func 149) [.rp [.sl (.list .int) cfs], .rp [.lit (.int .i64 p), .lit (.int .i64 q), .lit (.int .i64 g)]]] => some (xs, cfs, p, q, g)
  | _ => none
noncomputable def c_ncC : Con0 := conR m_ncC fun ((xs, cfs, p, q, g) : List (List Int) × List (List Int) × Int × Int × Int) => (xs.length ≤ 9223372036854775806 ∧ (M.Grp p q g ∧ 0 < cfs.length), .lit (.bool (xs.any (ncB q cfs))), [])
noncomputable def G_ncC : List (FuncId × Con) := [(183, mk c_ncCI)]
theorem G_ncC_ok : ∀ f C, (f, C) ∈ G_ncC → C.ok Try.prog f := by
  intro f C h
  simp only [G_ncC, List.mem_cons, Prod.mk.injEq, List.not_mem_nil, or_false] at h
  obtain ⟨rfl, rfl⟩ := h
  exact ok_ncCI
set_option maxRecDepth 100000 in
set_option maxHeartbeats 4000000 in
theorem ok_ncC : (mk c_ncC).ok Try.prog 143 := okR (Θ := Th) (N := 9) (rs := [.tmp 4]) Th_ok Try.func143 (by kernel_rfl) rfl Try.results143 (by decide) (by kernel_rfl) (fun ((xs, cfs, p, q, g) : List (List Int) × List (List Int) × Int × Int × Int) => [.sl (.list .int) xs, .fn (.func 149) [.rp [.sl (.list .int) cfs], .rp [.lit (.int .i64 p), .lit (.int .i64 q), .lit (.int .i64 g)]]]) (fun args d h => by unfold m_ncC at h; split at h <;> cases h; rfl) fun ((xs, cfs, p, q, g) : List (List Int) × List (List Int) × Int × Int × Int) => ⟨rfl, rfl, Nat.le_of_ble_eq_true rfl, fun hc w0 => by
  have hL := dmy_eq
  try dsimp only at hc
  try dsimp only
  obtain ⟨hxl, hcc⟩ := hc
  obtain ⟨hG, hc0⟩ := hcc
  refine AWp.body rfl ?_
  repeat' first
    | ((with_reducible refine hK _ _ ?_); clear hK K)
    | ((with_reducible refine hK _ _ (by kernel_rfl) ?_); clear hK K)
    | ((with_reducible refine AWp.pS Th_ok G_ncC_ok [0, 1, 4] (by decide) ?_); intro K hK)
    | ((with_reducible refine AWp.dS (by kernel_rfl) Th_ok G_ncC_ok [0, 1, 4] ?_); intro K hK)
    | ((with_reducible refine AWp.pE Th_ok G_ncC_ok [0, 1, 4] (by decide) ?_); intro K hK)
    | ((with_reducible refine AWp.dE (by kernel_rfl) Th_ok G_ncC_ok [0, 1, 4] ?_); intro K hK)
    | ((first | with_reducible refine runF_id ?_ | with_reducible refine stepF_id ?_); simp (maxSteps := 2000000) only [runF, stepF, forkOf, gdOf, List.toList_toArray, stepOp, look, opAV, pureOp, callOp, memOp, AS.ev, AS.get, AS.obj, initS, initFrom, AV.cells, AS.upd, Option.bind_some, Option.bind_none, Option.map_some, Option.map_none, Option.getD_none, Option.getD_some, ↓reduceIte, Nat.reduceEqDiff, Nat.reduceAdd, Nat.reduceMul, Nat.reduceSub, List.nil_append, List.append_nil, List.cons_append, List.map_cons, List.map_nil, true_and, and_true, AS.fin, pick, dedup, List.mem_cons, List.not_mem_nil, or_false, false_or, List.size_toArray, List.length_cons, List.length_nil, loadAV, List.drop_zero, List.drop_succ_cons, List.take_zero, List.take_succ_cons, List.getElem?_cons_zero, List.getElem?_cons_succ, List.head?_cons, List.mapM_cons, List.mapM_nil, Option.bind_eq_bind, Option.pure_def, deeps3, deep3, deep2, deep1, deeps, deeps2, mixInts, AV.plain, mk, mkD, DCon.lift, DCon.runC, ren3, ren2, ren1, numb, List.zipIdx_nil, List.zipIdx_cons, List.all_nil, List.all_cons, Nat.reduceLeDiff, List.range, List.range.loop, Ty.sz, beq_self_eq_true, Bool.and_self, and_self, Ty.ofC, AO.isDead, Nat.reduceLT, if_true, Nat.zero_add, Nat.add_zero, ite_true, Nat.le_refl, Bool.false_eq_true, reduceCtorEq, if_false, ite_false, binAV, AO.ren, AV.isCell, fillAV, List.set_cons_zero, List.set_cons_succ, Ty.cells, Ty.flat, Ty.dflt, List.getD_cons_zero, List.getD_cons_succ, Int.reduceToNat, Int.reduceSub, Int.reduceAdd, Int.reduceMul, Int.reduceNeg, forall_eq_or_imp, forall_eq, gdL, id_eq, Nat.lt_irrefl, srcOf, List.replicate_succ, List.replicate_zero, dite_true, List.isEmpty_cons, Option.isSome_some, List.length_append, List.length_singleton, bne_self_eq_false, Bool.not_true, Bool.not_false, conF, asArgs, asArg, asTy, asI1, asB1, asS1, asL1, canons, canon, Fork.true_, Fork.false_, bne, Bool.not_not, List.length_map, pickO, AS.over, TI.bl, bne_iff_ne, AS.over2, without, keys, List.mem_singleton, memOp2, memOp3, absorb, abInt, abBool, abStr, abList, gones, Int.toNat_natCast, List.take_length, subE, List.nodup_cons, List.nodup_nil, not_false_eq_true, Nat.sub_self, conR, asG, asI, asBo, asStr, asIs, asBs, asE4, asI2, asI3, asLL, asLLL, Th_int, Th_SSint, G_ncC, c_ncCI, m_ncCI, hL])
    | ((with_reducible refine ens_step ?_ (fun hE => ?_)); · ((repeat' with_reducible apply And.intro) <;> first | with_reducible assumption | omega | exact True.intro | with_reducible rfl | (show ByteArray.size _ ≤ _; decide) | (simp; done) | (simp; omega) | rfl))
    | ((with_reducible refine And.intro ?_ ?_); · ((repeat' with_reducible apply And.intro) <;> first | with_reducible assumption | omega | exact True.intro | with_reducible rfl | (show ByteArray.size _ ≤ _; decide) | (simp; done) | (simp; omega) | rfl))
    | ((with_reducible refine Fork.intro (fun h' => ?_) (fun h' => ?_)) <;> (try simp only [Bool.not_eq_true', Bool.not_eq_false', bne] at h') <;> (replace hL := And.intro h' hL) <;> (try simp only [decide_eq_true_eq, decide_eq_false_iff_not, beq_iff_eq, beq_eq_false_iff_ne, ne_eq] at h'))
    | (with_reducible refine AWp.skipS ?_)
    | ((with_reducible refine AWp.condT rfl ?_))
    | ((with_reducible refine AWp.condF rfl ?_))
    | (with_reducible refine AWp.condB rfl ?_)
    | (with_reducible refine AWp.ret ?_)
    | (with_reducible refine seqQ_n ?_)
    | (with_reducible refine seqQ_ret ?_)
    | (with_reducible refine blkQ_ret ?_)
    | (with_reducible refine blkQ_n ?_)
    | (with_reducible refine seqQ_exit ?_)
    | (with_reducible refine blkQ_exit ?_)
    | (with_reducible refine blkQ_other (by decide) ?_)
    | (with_reducible refine AWp.block ?_)
    | (with_reducible refine AWp.exit ?_)
    | (with_reducible refine AWp.skip ?_)
    | ((with_reducible refine EndsAt_id ?_); (try subst_vars); rw [← ixf_any _ xs 0]; refine EndsAt.done [] (by first | exact .inr rfl | exact .inl rfl) rfl rfl (by decide) trivial)
    | (with_reducible refine AWp.seq ?_)⟩
def m_nfP : List AV → Option (Int × Int × Int × Bool × Int × Int × Int × Int)
  | [.agg [.lit (.int .i64 fa), .lit (.int .i64 fb), .lit (.int .i64 fc), .lit (.bool fd)], .rp [.lit (.int .i64 n)], .rp [.lit (.int .i64 p), .lit (.int .i64 q), .lit (.int .i64 g)]] => some (fa, fb, fc, fd, n, p, q, g)
  | _ => none
noncomputable def c_nfP : Con0 := conR m_nfP fun ((fa, fb, fc, fd, n, p, q, g) : Int × Int × Int × Bool × Int × Int × Int × Int) => (M.Grp p q g, .lit (.bool (nfB q n (fa, fb, fc, fd))), [])
noncomputable def G_nfP : List (FuncId × Con) := [(109, mk c_within), (152, mk c_isExp)]
theorem G_nfP_ok : ∀ f C, (f, C) ∈ G_nfP → C.ok Try.prog f := by
  intro f C h
  simp only [G_nfP, List.mem_cons, Prod.mk.injEq, List.not_mem_nil, or_false] at h
  rcases h with ⟨rfl, rfl⟩ | ⟨rfl, rfl⟩
  · exact ok_within
  · exact ok_isExp
set_option maxRecDepth 100000 in
set_option maxHeartbeats 4000000 in
theorem ok_nfP : (mk c_nfP).ok Try.prog 151 := okR (Θ := Th) (N := 24) (rs := [.tmp 4]) Th_ok Try.func151 (by kernel_rfl) rfl Try.results151 (by decide) (by kernel_rfl) (fun ((fa, fb, fc, fd, n, p, q, g) : Int × Int × Int × Bool × Int × Int × Int × Int) => [.agg [.lit (.int .i64 fa), .lit (.int .i64 fb), .lit (.int .i64 fc), .lit (.bool fd)], .rp [.lit (.int .i64 n)], .rp [.lit (.int .i64 p), .lit (.int .i64 q), .lit (.int .i64 g)]]) (fun args d h => by unfold m_nfP at h; split at h <;> cases h; rfl) fun ((fa, fb, fc, fd, n, p, q, g) : Int × Int × Int × Bool × Int × Int × Int × Int) => ⟨rfl, rfl, Nat.le_of_ble_eq_true rfl, fun hc w0 => by
  have hL := dmy_eq
  try dsimp only at hc
  try dsimp only
  have hG := hc
  have hq2 := hG.q2
  have hqp := hG.qp
  have hp3 := hG.p3
  have hpM := hG.pM
  have hgb : 0 ≤ g ∧ g < p := ⟨by have := hG.g2; omega, hG.gp⟩
  refine AWp.body rfl ?_
  repeat' first
    | ((with_reducible refine hK _ _ ?_); clear hK K)
    | ((with_reducible refine hK _ _ (by kernel_rfl) ?_); clear hK K)
    | ((with_reducible refine AWp.pS Th_ok G_nfP_ok [0, 1, 2, 3, 4] (by decide) ?_); intro K hK)
    | ((with_reducible refine AWp.dS (by kernel_rfl) Th_ok G_nfP_ok [0, 1, 2, 3, 4] ?_); intro K hK)
    | ((with_reducible refine AWp.pE Th_ok G_nfP_ok [0, 1, 2, 3, 4] (by decide) ?_); intro K hK)
    | ((with_reducible refine AWp.dE (by kernel_rfl) Th_ok G_nfP_ok [0, 1, 2, 3, 4] ?_); intro K hK)
    | ((first | with_reducible refine runF_id ?_ | with_reducible refine stepF_id ?_); simp (maxSteps := 2000000) only [runF, stepF, forkOf, gdOf, List.toList_toArray, stepOp, look, opAV, pureOp, callOp, memOp, AS.ev, AS.get, AS.obj, initS, initFrom, AV.cells, AS.upd, Option.bind_some, Option.bind_none, Option.map_some, Option.map_none, Option.getD_none, Option.getD_some, ↓reduceIte, Nat.reduceEqDiff, Nat.reduceAdd, Nat.reduceMul, Nat.reduceSub, List.nil_append, List.append_nil, List.cons_append, List.map_cons, List.map_nil, true_and, and_true, AS.fin, pick, dedup, List.mem_cons, List.not_mem_nil, or_false, false_or, List.size_toArray, List.length_cons, List.length_nil, loadAV, List.drop_zero, List.drop_succ_cons, List.take_zero, List.take_succ_cons, List.getElem?_cons_zero, List.getElem?_cons_succ, List.head?_cons, List.mapM_cons, List.mapM_nil, Option.bind_eq_bind, Option.pure_def, deeps3, deep3, deep2, deep1, deeps, deeps2, mixInts, AV.plain, mk, mkD, DCon.lift, DCon.runC, ren3, ren2, ren1, numb, List.zipIdx_nil, List.zipIdx_cons, List.all_nil, List.all_cons, Nat.reduceLeDiff, List.range, List.range.loop, Ty.sz, beq_self_eq_true, Bool.and_self, and_self, Ty.ofC, AO.isDead, Nat.reduceLT, if_true, Nat.zero_add, Nat.add_zero, ite_true, Nat.le_refl, Bool.false_eq_true, reduceCtorEq, if_false, ite_false, binAV, AO.ren, AV.isCell, fillAV, List.set_cons_zero, List.set_cons_succ, Ty.cells, Ty.flat, Ty.dflt, List.getD_cons_zero, List.getD_cons_succ, Int.reduceToNat, Int.reduceSub, Int.reduceAdd, Int.reduceMul, Int.reduceNeg, forall_eq_or_imp, forall_eq, gdL, id_eq, Nat.lt_irrefl, srcOf, List.replicate_succ, List.replicate_zero, dite_true, List.isEmpty_cons, Option.isSome_some, List.length_append, List.length_singleton, bne_self_eq_false, Bool.not_true, Bool.not_false, conF, asArgs, asArg, asTy, asI1, asB1, asS1, asL1, canons, canon, Fork.true_, Fork.false_, bne, Bool.not_not, List.length_map, pickO, AS.over, TI.bl, bne_iff_ne, AS.over2, without, keys, List.mem_singleton, memOp2, memOp3, absorb, abInt, abBool, abStr, abList, gones, Int.toNat_natCast, List.take_length, subE, List.nodup_cons, List.nodup_nil, not_false_eq_true, Nat.sub_self, conR, asG, asI, asBo, asStr, asIs, asBs, asE4, asI2, asI3, asLL, asLLL, Th_int, Th_bool, Th_implFault, Th_implGroup, Th_lawsGroup, Th_lawsSPartial, Th_string, G_nfP, c_within, c_isExp, hL])
    | ((with_reducible refine ens_step ?_ (fun hE => ?_)); · ((repeat' with_reducible apply And.intro) <;> first | with_reducible assumption | omega | exact True.intro | with_reducible rfl | (show ByteArray.size _ ≤ _; decide) | (simp; done) | (simp; omega) | rfl))
    | ((with_reducible refine And.intro ?_ ?_); · ((repeat' with_reducible apply And.intro) <;> first | with_reducible assumption | omega | exact True.intro | with_reducible rfl | (show ByteArray.size _ ≤ _; decide) | (simp; done) | (simp; omega) | rfl))
    | ((with_reducible refine Fork.intro (fun h' => ?_) (fun h' => ?_)) <;> (try simp only [Bool.not_eq_true', Bool.not_eq_false', bne] at h') <;> (replace hL := And.intro h' hL) <;> (try simp only [decide_eq_true_eq, decide_eq_false_iff_not, beq_iff_eq, beq_eq_false_iff_ne, ne_eq] at h'))
    | (with_reducible refine AWp.skipS ?_)
    | ((with_reducible refine AWp.condT rfl ?_))
    | ((with_reducible refine AWp.condF rfl ?_))
    | (with_reducible refine AWp.condB rfl ?_)
    | (with_reducible refine AWp.ret ?_)
    | (with_reducible refine seqQ_n ?_)
    | (with_reducible refine seqQ_ret ?_)
    | (with_reducible refine blkQ_ret ?_)
    | (with_reducible refine blkQ_n ?_)
    | (with_reducible refine seqQ_exit ?_)
    | (with_reducible refine blkQ_exit ?_)
    | (with_reducible refine blkQ_other (by decide) ?_)
    | (with_reducible refine AWp.block ?_)
    | (with_reducible refine AWp.exit ?_)
    | (with_reducible refine AWp.skip ?_)
    | ((with_reducible refine EndsAt_id ?_); (try subst_vars); (try simp only [nfB, hL, List.length_cons, List.length_nil, Nat.zero_add, Nat.reduceAdd, Bool.and_true, Bool.and_false, Bool.true_and, Bool.false_and, Bool.and_self, ↓reduceIte, Bool.false_eq_true, Bool.not_true, Bool.not_false, bne]); refine EndsAt.done [] (by first | exact .inr rfl | exact .inl rfl) rfl rfl ?_ ?_ <;> first | decide | (repeat' (first | rfl | apply And.intro | trivial)))
    | (with_reducible refine AWp.seq ?_)⟩
def m_nfCI : List AV → Option (List (Int × Int × Int × Bool) × Int × Int × Int × Int)
  | [.sl (.pair .int (.pair .int (.pair .int .bool))) xs, .fn (.func 151) [.rp [.lit (.int .i64 n)], .rp [.lit (.int .i64 p), .lit (.int .i64 q), .lit (.int .i64 g)]]] => some (xs, n, p, q, g)
  | _ => none
noncomputable def c_nfCI : Con0 := conR m_nfCI fun ((xs, n, p, q, g) : List (Int × Int × Int × Bool) × Int × Int × Int × Int) => (xs.length ≤ 9223372036854775806 ∧ M.Grp p q g, .lit (.int .i64 (idxF (nfB q n) xs 0)), [])
noncomputable def G_nfCI : List (FuncId × Con) := [(151, mk c_nfP)]
theorem G_nfCI_ok : ∀ f C, (f, C) ∈ G_nfCI → C.ok Try.prog f := by
  intro f C h
  simp only [G_nfCI, List.mem_cons, Prod.mk.injEq, List.not_mem_nil, or_false] at h
  obtain ⟨rfl, rfl⟩ := h
  exact ok_nfP
set_option maxRecDepth 100000 in
set_option maxHeartbeats 4000000 in
theorem ok_nfCI : (mk c_nfCI).ok Try.prog 189 := okR (Θ := Th) (N := 19) (rs := [.tmp 4]) Th_ok Try.func189 (by kernel_rfl) rfl Try.results189 (by decide) (by kernel_rfl) (fun ((xs, n, p, q, g) : List (Int × Int × Int × Bool) × Int × Int × Int × Int) => [.sl (.pair .int (.pair .int (.pair .int .bool))) xs, .fn (.func 151) [.rp [.lit (.int .i64 n)], .rp [.lit (.int .i64 p), .lit (.int .i64 q), .lit (.int .i64 g)]]]) (fun args d h => by unfold m_nfCI at h; split at h <;> cases h; rfl) fun ((xs, n, p, q, g) : List (Int × Int × Int × Bool) × Int × Int × Int × Int) => ⟨rfl, rfl, Nat.le_of_ble_eq_true rfl, fun hc w0 => by
  have hL := dmy_eq
  try dsimp only at hc
  try dsimp only
  obtain ⟨hxl, hcc⟩ := hc
  have hG := hcc
  refine AWp.body rfl ?_
  repeat' first
    | ((with_reducible refine hK _ _ ?_); clear hK K)
    | ((with_reducible refine hK _ _ (by kernel_rfl) ?_); clear hK K)
    | ((with_reducible refine AWp.pS Th_ok G_nfCI_ok [0, 1, 4, 5, 7, 8, 9, 16] (by decide) ?_); intro K hK)
    | ((with_reducible refine AWp.dS (by kernel_rfl) Th_ok G_nfCI_ok [0, 1, 4, 5, 7, 8, 9, 16] ?_); intro K hK)
    | ((with_reducible refine AWp.pE Th_ok G_nfCI_ok [0, 1, 4, 5, 7, 8, 9, 16] (by decide) ?_); intro K hK)
    | ((with_reducible refine AWp.dE (by kernel_rfl) Th_ok G_nfCI_ok [0, 1, 4, 5, 7, 8, 9, 16] ?_); intro K hK)
    | ((first | with_reducible refine runF_id ?_ | with_reducible refine stepF_id ?_); simp (maxSteps := 2000000) only [runF, stepF, forkOf, gdOf, List.toList_toArray, stepOp, look, opAV, pureOp, callOp, memOp, AS.ev, AS.get, AS.obj, initS, initFrom, AV.cells, AS.upd, Option.bind_some, Option.bind_none, Option.map_some, Option.map_none, Option.getD_none, Option.getD_some, ↓reduceIte, Nat.reduceEqDiff, Nat.reduceAdd, Nat.reduceMul, Nat.reduceSub, List.nil_append, List.append_nil, List.cons_append, List.map_cons, List.map_nil, true_and, and_true, AS.fin, pick, dedup, List.mem_cons, List.not_mem_nil, or_false, false_or, List.size_toArray, List.length_cons, List.length_nil, loadAV, List.drop_zero, List.drop_succ_cons, List.take_zero, List.take_succ_cons, List.getElem?_cons_zero, List.getElem?_cons_succ, List.head?_cons, List.mapM_cons, List.mapM_nil, Option.bind_eq_bind, Option.pure_def, deeps3, deep3, deep2, deep1, deeps, deeps2, mixInts, AV.plain, mk, mkD, DCon.lift, DCon.runC, ren3, ren2, ren1, numb, List.zipIdx_nil, List.zipIdx_cons, List.all_nil, List.all_cons, Nat.reduceLeDiff, List.range, List.range.loop, Ty.sz, beq_self_eq_true, Bool.and_self, and_self, Ty.ofC, AO.isDead, Nat.reduceLT, if_true, Nat.zero_add, Nat.add_zero, ite_true, Nat.le_refl, Bool.false_eq_true, reduceCtorEq, if_false, ite_false, binAV, AO.ren, AV.isCell, fillAV, List.set_cons_zero, List.set_cons_succ, Ty.cells, Ty.flat, Ty.dflt, List.getD_cons_zero, List.getD_cons_succ, Int.reduceToNat, Int.reduceSub, Int.reduceAdd, Int.reduceMul, Int.reduceNeg, forall_eq_or_imp, forall_eq, gdL, id_eq, Nat.lt_irrefl, srcOf, List.replicate_succ, List.replicate_zero, dite_true, List.isEmpty_cons, Option.isSome_some, List.length_append, List.length_singleton, bne_self_eq_false, Bool.not_true, Bool.not_false, conF, asArgs, asArg, asTy, asI1, asB1, asS1, asL1, canons, canon, Fork.true_, Fork.false_, bne, Bool.not_not, List.length_map, pickO, AS.over, TI.bl, bne_iff_ne, AS.over2, without, keys, List.mem_singleton, memOp2, memOp3, absorb, abInt, abBool, abStr, abList, gones, Int.toNat_natCast, List.take_length, subE, List.nodup_cons, List.nodup_nil, not_false_eq_true, Nat.sub_self, conR, asG, asI, asBo, asStr, asIs, asBs, asE4, asI2, asI3, asLL, asLLL, Th_int, Th_implFault, Th_implSFault, G_nfCI, c_nfP, m_nfP, hL])
    | ((with_reducible refine ens_step ?_ (fun hE => ?_)); · ((repeat' with_reducible apply And.intro) <;> first | with_reducible assumption | omega | exact True.intro | with_reducible rfl | (show ByteArray.size _ ≤ _; decide) | (simp; done) | (simp; omega) | rfl))
    | ((with_reducible refine And.intro ?_ ?_); · ((repeat' with_reducible apply And.intro) <;> first | with_reducible assumption | omega | exact True.intro | with_reducible rfl | (show ByteArray.size _ ≤ _; decide) | (simp; done) | (simp; omega) | rfl))
    | ((with_reducible refine Fork.intro (fun h' => ?_) (fun h' => ?_)) <;> (try simp only [Bool.not_eq_true', Bool.not_eq_false', bne] at h') <;> (replace hL := And.intro h' hL) <;> (try simp only [decide_eq_true_eq, decide_eq_false_iff_not, beq_iff_eq, beq_eq_false_iff_ne, ne_eq] at h') <;> (try (have hnx := ixf_next (p := nfB q n) (d := ((0 : Int), (0 : Int), (0 : Int), false)) (xs := xs) (k := k) (by omega) h'; rw [hnx] at hk2)) <;> (try (have hke : k = xs.length := (by omega); subst hke)))
    | (with_reducible refine AWp.skipS ?_)
    | ((with_reducible refine AWp.condT rfl ?_))
    | ((with_reducible refine AWp.condF rfl ?_))
    | (with_reducible refine AWp.condB rfl ?_)
    | (with_reducible refine AWp.ret ?_)
    | (with_reducible refine seqQ_n ?_)
    | (with_reducible refine seqQ_ret ?_)
    | (with_reducible refine blkQ_ret ?_)
    | (with_reducible refine blkQ_n ?_)
    | (with_reducible refine seqQ_exit ?_)
    | (with_reducible refine blkQ_exit ?_)
    | (with_reducible refine blkQ_other (by decide) ?_)
    | (with_reducible refine AWp.block ?_)
    | (with_reducible refine AWp.exit ?_)
    | (with_reducible refine AWp.skip ?_)
    | ((with_reducible refine loop_id ?_); refine AWp.loopAt 2 rfl ?_; refine AWp.loopO [4, 5, 8, 9, 10, 11, 12, 13, 14, 15, 16, 17, 18] (fun k => [(8, .lit (.int .i64 (k : Nat)))]) (fun k => []) (fun k => k ≤ xs.length ∧ idxF (nfB q n) xs 0 = idxF (nfB q n) (xs.drop k) k) (fun k => xs.length - k) 0 (by exact ⟨by omega, by simp⟩) (by refine Sub.auto (by first | exact frok0 | assumption) rfl rfl ?_ ?_ <;> (try simp only [subE, AS.over2, without, keys, look, List.cons_append, List.nil_append, List.append_nil, List.mem_cons, List.not_mem_nil, or_false, or_true, true_or, false_or, Nat.reduceEqDiff, ↓reduceIte, Option.some.injEq, AV.lit.injEq, Value.int.injEq, Value.bool.injEq, AV.own.injEq, AO.row.injEq, AO.box.injEq, List.cons.injEq, AV.agg.injEq, AV.sl.injEq, true_and, and_true, and_self, heq_eq_eq, List.length_nil, List.length_cons, List.map_nil, List.take_zero, Int.natCast_add, Int.cast_ofNat_Int, Int.natCast_zero, List.length_append, List.length_map, List.length_take, Nat.zero_add]) <;> (simp)) (fun k hk_2 L2 hLoop2 => ?_); obtain ⟨hk1, hk2⟩ := hk_2)
    | ((with_reducible refine seqQ_f ?_); refine hLoop2 (k + 1) _ (by exact ⟨by omega, hk2⟩) (by omega) ?_; (refine Sub.auto (by first | exact frok0 | assumption) rfl rfl ?_ ?_ <;> (try simp only [subE, AS.over2, without, keys, look, List.cons_append, List.nil_append, List.append_nil, List.mem_cons, List.not_mem_nil, or_false, or_true, true_or, false_or, Nat.reduceEqDiff, ↓reduceIte, Option.some.injEq, AV.lit.injEq, Value.int.injEq, Value.bool.injEq, AV.own.injEq, AO.row.injEq, AO.box.injEq, List.cons.injEq, AV.agg.injEq, AV.sl.injEq, true_and, and_true, and_self, heq_eq_eq, List.length_nil, List.length_cons, List.map_nil, List.take_zero, Int.natCast_add, Int.cast_ofNat_Int, Int.natCast_zero, List.length_append, List.length_map, List.length_take, Nat.zero_add]) <;> (omega)))
    | ((with_reducible refine EndsAt_id ?_); (try subst_vars); first | (rw [hk2, ixf_hit (p := nfB q n) (d := ((0 : Int), (0 : Int), (0 : Int), false)) (by omega) h']; refine EndsAt.done [] (by first | exact .inr rfl | exact .inl rfl) rfl rfl (by decide) trivial) | (rw [hk2, ixf_end]; refine EndsAt.done [] (by first | exact .inr rfl | exact .inl rfl) rfl rfl (by decide) trivial))
    | (with_reducible refine AWp.seq ?_)⟩
def m_nfC : List AV → Option (List (Int × Int × Int × Bool) × Int × Int × Int × Int)
  | [.sl (.pair .int (.pair .int (.pair .int .bool))) xs, .fn (.func 151) [.rp [.lit (.int .i64 n)], .rp [.lit (.int .i64 p), .lit (.int .i64 q), .lit (.int .i64 g)]]] => some (xs, n, p, q, g)
  | _ => none
noncomputable def c_nfC : Con0 := conR m_nfC fun ((xs, n, p, q, g) : List (Int × Int × Int × Bool) × Int × Int × Int × Int) => (xs.length ≤ 9223372036854775806 ∧ M.Grp p q g, .lit (.bool (xs.any (nfB q n))), [])
noncomputable def G_nfC : List (FuncId × Con) := [(189, mk c_nfCI)]
theorem G_nfC_ok : ∀ f C, (f, C) ∈ G_nfC → C.ok Try.prog f := by
  intro f C h
  simp only [G_nfC, List.mem_cons, Prod.mk.injEq, List.not_mem_nil, or_false] at h
  obtain ⟨rfl, rfl⟩ := h
  exact ok_nfCI
set_option maxRecDepth 100000 in
set_option maxHeartbeats 4000000 in
theorem ok_nfC : (mk c_nfC).ok Try.prog 150 := okR (Θ := Th) (N := 9) (rs := [.tmp 4]) Th_ok Try.func150 (by kernel_rfl) rfl Try.results150 (by decide) (by kernel_rfl) (fun ((xs, n, p, q, g) : List (Int × Int × Int × Bool) × Int × Int × Int × Int) => [.sl (.pair .int (.pair .int (.pair .int .bool))) xs, .fn (.func 151) [.rp [.lit (.int .i64 n)], .rp [.lit (.int .i64 p), .lit (.int .i64 q), .lit (.int .i64 g)]]]) (fun args d h => by unfold m_nfC at h; split at h <;> cases h; rfl) fun ((xs, n, p, q, g) : List (Int × Int × Int × Bool) × Int × Int × Int × Int) => ⟨rfl, rfl, Nat.le_of_ble_eq_true rfl, fun hc w0 => by
  have hL := dmy_eq
  try dsimp only at hc
  try dsimp only
  obtain ⟨hxl, hcc⟩ := hc
  have hG := hcc
  refine AWp.body rfl ?_
  repeat' first
    | ((with_reducible refine hK _ _ ?_); clear hK K)
    | ((with_reducible refine hK _ _ (by kernel_rfl) ?_); clear hK K)
    | ((with_reducible refine AWp.pS Th_ok G_nfC_ok [0, 1, 4] (by decide) ?_); intro K hK)
    | ((with_reducible refine AWp.dS (by kernel_rfl) Th_ok G_nfC_ok [0, 1, 4] ?_); intro K hK)
    | ((with_reducible refine AWp.pE Th_ok G_nfC_ok [0, 1, 4] (by decide) ?_); intro K hK)
    | ((with_reducible refine AWp.dE (by kernel_rfl) Th_ok G_nfC_ok [0, 1, 4] ?_); intro K hK)
    | ((first | with_reducible refine runF_id ?_ | with_reducible refine stepF_id ?_); simp (maxSteps := 2000000) only [runF, stepF, forkOf, gdOf, List.toList_toArray, stepOp, look, opAV, pureOp, callOp, memOp, AS.ev, AS.get, AS.obj, initS, initFrom, AV.cells, AS.upd, Option.bind_some, Option.bind_none, Option.map_some, Option.map_none, Option.getD_none, Option.getD_some, ↓reduceIte, Nat.reduceEqDiff, Nat.reduceAdd, Nat.reduceMul, Nat.reduceSub, List.nil_append, List.append_nil, List.cons_append, List.map_cons, List.map_nil, true_and, and_true, AS.fin, pick, dedup, List.mem_cons, List.not_mem_nil, or_false, false_or, List.size_toArray, List.length_cons, List.length_nil, loadAV, List.drop_zero, List.drop_succ_cons, List.take_zero, List.take_succ_cons, List.getElem?_cons_zero, List.getElem?_cons_succ, List.head?_cons, List.mapM_cons, List.mapM_nil, Option.bind_eq_bind, Option.pure_def, deeps3, deep3, deep2, deep1, deeps, deeps2, mixInts, AV.plain, mk, mkD, DCon.lift, DCon.runC, ren3, ren2, ren1, numb, List.zipIdx_nil, List.zipIdx_cons, List.all_nil, List.all_cons, Nat.reduceLeDiff, List.range, List.range.loop, Ty.sz, beq_self_eq_true, Bool.and_self, and_self, Ty.ofC, AO.isDead, Nat.reduceLT, if_true, Nat.zero_add, Nat.add_zero, ite_true, Nat.le_refl, Bool.false_eq_true, reduceCtorEq, if_false, ite_false, binAV, AO.ren, AV.isCell, fillAV, List.set_cons_zero, List.set_cons_succ, Ty.cells, Ty.flat, Ty.dflt, List.getD_cons_zero, List.getD_cons_succ, Int.reduceToNat, Int.reduceSub, Int.reduceAdd, Int.reduceMul, Int.reduceNeg, forall_eq_or_imp, forall_eq, gdL, id_eq, Nat.lt_irrefl, srcOf, List.replicate_succ, List.replicate_zero, dite_true, List.isEmpty_cons, Option.isSome_some, List.length_append, List.length_singleton, bne_self_eq_false, Bool.not_true, Bool.not_false, conF, asArgs, asArg, asTy, asI1, asB1, asS1, asL1, canons, canon, Fork.true_, Fork.false_, bne, Bool.not_not, List.length_map, pickO, AS.over, TI.bl, bne_iff_ne, AS.over2, without, keys, List.mem_singleton, memOp2, memOp3, absorb, abInt, abBool, abStr, abList, gones, Int.toNat_natCast, List.take_length, subE, List.nodup_cons, List.nodup_nil, not_false_eq_true, Nat.sub_self, conR, asG, asI, asBo, asStr, asIs, asBs, asE4, asI2, asI3, asLL, asLLL, Th_int, Th_implSFault, G_nfC, c_nfCI, m_nfCI, hL])
    | ((with_reducible refine ens_step ?_ (fun hE => ?_)); · ((repeat' with_reducible apply And.intro) <;> first | with_reducible assumption | omega | exact True.intro | with_reducible rfl | (show ByteArray.size _ ≤ _; decide) | (simp; done) | (simp; omega) | rfl))
    | ((with_reducible refine And.intro ?_ ?_); · ((repeat' with_reducible apply And.intro) <;> first | with_reducible assumption | omega | exact True.intro | with_reducible rfl | (show ByteArray.size _ ≤ _; decide) | (simp; done) | (simp; omega) | rfl))
    | ((with_reducible refine Fork.intro (fun h' => ?_) (fun h' => ?_)) <;> (try simp only [Bool.not_eq_true', Bool.not_eq_false', bne] at h') <;> (replace hL := And.intro h' hL) <;> (try simp only [decide_eq_true_eq, decide_eq_false_iff_not, beq_iff_eq, beq_eq_false_iff_ne, ne_eq] at h'))
    | (with_reducible refine AWp.skipS ?_)
    | ((with_reducible refine AWp.condT rfl ?_))
    | ((with_reducible refine AWp.condF rfl ?_))
    | (with_reducible refine AWp.condB rfl ?_)
    | (with_reducible refine AWp.ret ?_)
    | (with_reducible refine seqQ_n ?_)
    | (with_reducible refine seqQ_ret ?_)
    | (with_reducible refine blkQ_ret ?_)
    | (with_reducible refine blkQ_n ?_)
    | (with_reducible refine seqQ_exit ?_)
    | (with_reducible refine blkQ_exit ?_)
    | (with_reducible refine blkQ_other (by decide) ?_)
    | (with_reducible refine AWp.block ?_)
    | (with_reducible refine AWp.exit ?_)
    | (with_reducible refine AWp.skip ?_)
    | ((with_reducible refine EndsAt_id ?_); (try subst_vars); rw [← ixf_any _ xs 0]; refine EndsAt.done [] (by first | exact .inr rfl | exact .inl rfl) rfl rfl (by decide) trivial)
    | (with_reducible refine AWp.seq ?_)⟩
noncomputable def c_arePlays : Con0 := conF [(.pair .int (.pair .int .int)), (.list (.list .int)), (.list (.pair .int (.pair .int (.pair .int .bool))))] fun (⟨⟨p, q, g⟩, cfs, fl, _⟩ : (Int × Int × Int) × (List (List Int)) × (List (Int × Int × Int × Bool)) × Unit) => (M.Grp p q g ∧ cfs.length ≤ 9223372036854775806 ∧ fl.length ≤ 9223372036854775806, .lit (.bool (apB q cfs fl)), [])
noncomputable def G_arePlays : List (FuncId × Con) := [(109, mk c_within), (143, mk c_ncC), (150, mk c_nfC)]
theorem G_arePlays_ok : ∀ f C, (f, C) ∈ G_arePlays → C.ok Try.prog f := by
  intro f C h
  simp only [G_arePlays, List.mem_cons, Prod.mk.injEq, List.not_mem_nil, or_false] at h
  rcases h with ⟨rfl, rfl⟩ | ⟨rfl, rfl⟩ | ⟨rfl, rfl⟩
  · exact ok_within
  · exact ok_ncC
  · exact ok_nfC
set_option maxRecDepth 100000 in
set_option maxHeartbeats 4000000 in
theorem ok_arePlays : (mk c_arePlays).ok Try.prog 98 := okF (Θ := Th) (N := 37) (rs := [.tmp 6]) Th_ok Try.func98 (by kernel_rfl) rfl Try.results98 (by decide) (by kernel_rfl) fun (⟨⟨p, q, g⟩, cfs, fl, _⟩ : (Int × Int × Int) × (List (List Int)) × (List (Int × Int × Int × Bool)) × Unit) => ⟨rfl, rfl, Nat.le_of_ble_eq_true rfl, fun hc w0 => by
  have hL := dmy_eq
  try dsimp only at hc
  try dsimp only
  obtain ⟨hG, hb1, hb2⟩ := hc
  have hq2 := hG.q2
  have hqp := hG.qp
  have hp3 := hG.p3
  have hpM := hG.pM
  have hgb : 0 ≤ g ∧ g < p := ⟨by have := hG.g2; omega, hG.gp⟩
  refine AWp.body rfl ?_
  repeat' first
    | ((with_reducible refine hK _ _ ?_); clear hK K)
    | ((with_reducible refine hK _ _ (by kernel_rfl) ?_); clear hK K)
    | ((with_reducible refine AWp.pS Th_ok G_arePlays_ok [0, 1, 2, 3, 4, 6, 7, 26] (by decide) ?_); intro K hK)
    | ((with_reducible refine AWp.dS (by kernel_rfl) Th_ok G_arePlays_ok [0, 1, 2, 3, 4, 6, 7, 26] ?_); intro K hK)
    | ((with_reducible refine AWp.pE Th_ok G_arePlays_ok [0, 1, 2, 3, 4, 6, 7, 26] (by decide) ?_); intro K hK)
    | ((with_reducible refine AWp.dE (by kernel_rfl) Th_ok G_arePlays_ok [0, 1, 2, 3, 4, 6, 7, 26] ?_); intro K hK)
    | ((first | with_reducible refine runF_id ?_ | with_reducible refine stepF_id ?_); simp (maxSteps := 2000000) only [runF, stepF, forkOf, gdOf, List.toList_toArray, stepOp, look, opAV, pureOp, callOp, memOp, AS.ev, AS.get, AS.obj, initS, initFrom, AV.cells, AS.upd, Option.bind_some, Option.bind_none, Option.map_some, Option.map_none, Option.getD_none, Option.getD_some, ↓reduceIte, Nat.reduceEqDiff, Nat.reduceAdd, Nat.reduceMul, Nat.reduceSub, List.nil_append, List.append_nil, List.cons_append, List.map_cons, List.map_nil, true_and, and_true, AS.fin, pick, dedup, List.mem_cons, List.not_mem_nil, or_false, false_or, List.size_toArray, List.length_cons, List.length_nil, loadAV, List.drop_zero, List.drop_succ_cons, List.take_zero, List.take_succ_cons, List.getElem?_cons_zero, List.getElem?_cons_succ, List.head?_cons, List.mapM_cons, List.mapM_nil, Option.bind_eq_bind, Option.pure_def, deeps3, deep3, deep2, deep1, deeps, deeps2, mixInts, AV.plain, mk, mkD, DCon.lift, DCon.runC, ren3, ren2, ren1, numb, List.zipIdx_nil, List.zipIdx_cons, List.all_nil, List.all_cons, Nat.reduceLeDiff, List.range, List.range.loop, Ty.sz, beq_self_eq_true, Bool.and_self, and_self, Ty.ofC, AO.isDead, Nat.reduceLT, if_true, Nat.zero_add, Nat.add_zero, ite_true, Nat.le_refl, Bool.false_eq_true, reduceCtorEq, if_false, ite_false, binAV, AO.ren, AV.isCell, fillAV, List.set_cons_zero, List.set_cons_succ, Ty.cells, Ty.flat, Ty.dflt, List.getD_cons_zero, List.getD_cons_succ, Int.reduceToNat, Int.reduceSub, Int.reduceAdd, Int.reduceMul, Int.reduceNeg, forall_eq_or_imp, forall_eq, gdL, id_eq, Nat.lt_irrefl, srcOf, List.replicate_succ, List.replicate_zero, dite_true, List.isEmpty_cons, Option.isSome_some, List.length_append, List.length_singleton, bne_self_eq_false, Bool.not_true, Bool.not_false, conF, asArgs, asArg, asTy, asI1, asB1, asS1, asL1, canons, canon, Fork.true_, Fork.false_, bne, Bool.not_not, List.length_map, pickO, AS.over, TI.bl, bne_iff_ne, AS.over2, without, keys, List.mem_singleton, memOp2, memOp3, absorb, abInt, abBool, abStr, abList, gones, Int.toNat_natCast, List.take_length, subE, List.nodup_cons, List.nodup_nil, not_false_eq_true, Nat.sub_self, conR, asG, asI, asBo, asStr, asIs, asBs, asE4, asI2, asI3, asLL, asLLL, Th_int, Th_SSint, Th_Sint, Th_bool, Th_implGroup, Th_implSDealing, Th_implSFault, Th_lawsGroup, Th_lawsSDealing, Th_lawsSPartial, Th_string, G_arePlays, c_within, c_ncC, m_ncC, c_nfC, m_nfC, hL])
    | ((with_reducible refine ens_step ?_ (fun hE => ?_)); · ((repeat' with_reducible apply And.intro) <;> first | with_reducible assumption | omega | exact True.intro | with_reducible rfl | (show ByteArray.size _ ≤ _; decide) | (simp; done) | (simp; omega) | rfl))
    | ((with_reducible refine And.intro ?_ ?_); · ((repeat' with_reducible apply And.intro) <;> first | with_reducible assumption | omega | exact True.intro | with_reducible rfl | (show ByteArray.size _ ≤ _; decide) | (simp; done) | (simp; omega) | rfl))
    | ((with_reducible refine Fork.intro (fun h' => ?_) (fun h' => ?_)) <;> (try simp only [Bool.not_eq_true', Bool.not_eq_false', bne] at h') <;> (replace hL := And.intro h' hL) <;> (try simp only [decide_eq_true_eq, decide_eq_false_iff_not, beq_iff_eq, beq_eq_false_iff_ne, ne_eq] at h') <;> (try (have hin := inr_t h')))
    | (with_reducible refine AWp.skipS ?_)
    | ((with_reducible refine AWp.condT rfl ?_))
    | ((with_reducible refine AWp.condF rfl ?_))
    | (with_reducible refine AWp.condB rfl ?_)
    | (with_reducible refine AWp.ret ?_)
    | (with_reducible refine seqQ_n ?_)
    | (with_reducible refine seqQ_ret ?_)
    | (with_reducible refine blkQ_ret ?_)
    | (with_reducible refine blkQ_n ?_)
    | (with_reducible refine seqQ_exit ?_)
    | (with_reducible refine blkQ_exit ?_)
    | (with_reducible refine blkQ_other (by decide) ?_)
    | (with_reducible refine AWp.block ?_)
    | (with_reducible refine AWp.exit ?_)
    | (with_reducible refine AWp.skip ?_)
    | ((with_reducible refine EndsAt_id ?_); (try subst_vars); (try simp only [apB, hL, List.length_cons, List.length_nil, Nat.zero_add, Nat.reduceAdd, Bool.and_true, Bool.and_false, Bool.true_and, Bool.false_and, Bool.and_self, ↓reduceIte, Bool.false_eq_true, Bool.not_true, Bool.not_false, bne]); refine EndsAt.done [] (by first | exact .inr rfl | exact .inl rfl) rfl rfl ?_ ?_ <;> first | decide | (repeat' (first | rfl | apply And.intro | trivial)))
    | (with_reducible refine AWp.seq ?_)⟩
noncomputable def c_PlayDealersI : Con0 := conF [(.pair .int (.pair .int .int)), (.list (.list .int)), (.list (.pair .int (.pair .int (.pair .int .bool))))] fun (⟨⟨p, q, g⟩, cfs, fl, _⟩ : (Int × Int × Int) × (List (List Int)) × (List (Int × Int × Int × Bool)) × Unit) => (cfs.length ≤ 9223372036854775806 ∧ fl.length ≤ 9223372036854775806, .tup [.own 0 (PPd p q g cfs fl).length, .own 1 (PPa p q g cfs fl).length, .lit (.bool (okPl p q g cfs fl))], [.row 81 (.pair (.list .int) (.list .int)) (PPd p q g cfs fl), .row 38 (.list .int) (PPa p q g cfs fl)])
noncomputable def G_PlayDealersI : List (FuncId × Con) := [(97, mk c_isSharing), (98, mk c_arePlays), (99, mk c_deal), (100, mk c_exp), (85, mk c_bad), (101, mk c_evalPoly)]
theorem G_PlayDealersI_ok : ∀ f C, (f, C) ∈ G_PlayDealersI → C.ok Try.prog f := by
  intro f C h
  simp only [G_PlayDealersI, List.mem_cons, Prod.mk.injEq, List.not_mem_nil, or_false] at h
  rcases h with ⟨rfl, rfl⟩ | ⟨rfl, rfl⟩ | ⟨rfl, rfl⟩ | ⟨rfl, rfl⟩ | ⟨rfl, rfl⟩ | ⟨rfl, rfl⟩
  · exact ok_isSharing
  · exact ok_arePlays
  · exact ok_deal
  · exact ok_exp
  · exact ok_bad
  · exact ok_evalPoly
set_option maxRecDepth 100000 in
set_option maxHeartbeats 4000000 in
theorem ok_PlayDealersI : (mk c_PlayDealersI).ok Try.prog 35 := okF (Θ := Th) (N := 109) (rs := [.tmp 6, .tmp 7, .tmp 8]) Th_ok Try.func35 (by kernel_rfl) rfl Try.results35 (by decide) (by kernel_rfl) fun (⟨⟨p, q, g⟩, cfs, fl, _⟩ : (Int × Int × Int) × (List (List Int)) × (List (Int × Int × Int × Bool)) × Unit) => ⟨rfl, rfl, Nat.le_of_ble_eq_true rfl, fun hc w0 => by
  have hL := dmy_eq
  try dsimp only at hc
  try dsimp only
  obtain ⟨hb1, hb2⟩ := hc
  refine AWp.body rfl ?_
  repeat' first
    | ((with_reducible refine hK _ _ ?_); clear hK K)
    | ((with_reducible refine hK _ _ (by kernel_rfl) ?_); clear hK K)
    | ((with_reducible refine AWp.pS Th_ok G_PlayDealersI_ok [0, 1, 2, 3, 6, 7, 8, 9, 10, 11, 12, 13, 14, 16, 17, 19, 29, 32, 33, 34, 35, 44, 45, 46, 47, 54, 82, 83, 84, 85, 88] (by decide) ?_); intro K hK)
    | ((with_reducible refine AWp.dS (by kernel_rfl) Th_ok G_PlayDealersI_ok [0, 1, 2, 3, 6, 7, 8, 9, 10, 11, 12, 13, 14, 16, 17, 19, 29, 32, 33, 34, 35, 44, 45, 46, 47, 54, 82, 83, 84, 85, 88] ?_); intro K hK)
    | ((with_reducible refine AWp.pE Th_ok G_PlayDealersI_ok [0, 1, 2, 3, 6, 7, 8, 9, 10, 11, 12, 13, 14, 16, 17, 19, 29, 32, 33, 34, 35, 44, 45, 46, 47, 54, 82, 83, 84, 85, 88] (by decide) ?_); intro K hK)
    | ((with_reducible refine AWp.dE (by kernel_rfl) Th_ok G_PlayDealersI_ok [0, 1, 2, 3, 6, 7, 8, 9, 10, 11, 12, 13, 14, 16, 17, 19, 29, 32, 33, 34, 35, 44, 45, 46, 47, 54, 82, 83, 84, 85, 88] ?_); intro K hK)
    | ((first | with_reducible refine runF_id ?_ | with_reducible refine stepF_id ?_); simp (maxSteps := 2000000) only [runF, stepF, forkOf, gdOf, List.toList_toArray, stepOp, look, opAV, pureOp, callOp, memOp, AS.ev, AS.get, AS.obj, initS, initFrom, AV.cells, AS.upd, Option.bind_some, Option.bind_none, Option.map_some, Option.map_none, Option.getD_none, Option.getD_some, ↓reduceIte, Nat.reduceEqDiff, Nat.reduceAdd, Nat.reduceMul, Nat.reduceSub, List.nil_append, List.append_nil, List.cons_append, List.map_cons, List.map_nil, true_and, and_true, AS.fin, pick, dedup, List.mem_cons, List.not_mem_nil, or_false, false_or, List.size_toArray, List.length_cons, List.length_nil, loadAV, List.drop_zero, List.drop_succ_cons, List.take_zero, List.take_succ_cons, List.getElem?_cons_zero, List.getElem?_cons_succ, List.head?_cons, List.mapM_cons, List.mapM_nil, Option.bind_eq_bind, Option.pure_def, deeps3, deep3, deep2, deep1, deeps, deeps2, mixInts, AV.plain, mk, mkD, DCon.lift, DCon.runC, ren3, ren2, ren1, numb, List.zipIdx_nil, List.zipIdx_cons, List.all_nil, List.all_cons, Nat.reduceLeDiff, List.range, List.range.loop, Ty.sz, beq_self_eq_true, Bool.and_self, and_self, Ty.ofC, AO.isDead, Nat.reduceLT, if_true, Nat.zero_add, Nat.add_zero, ite_true, Nat.le_refl, Bool.false_eq_true, reduceCtorEq, if_false, ite_false, binAV, AO.ren, AV.isCell, fillAV, List.set_cons_zero, List.set_cons_succ, Ty.cells, Ty.flat, Ty.dflt, List.getD_cons_zero, List.getD_cons_succ, Int.reduceToNat, Int.reduceSub, Int.reduceAdd, Int.reduceMul, Int.reduceNeg, forall_eq_or_imp, forall_eq, gdL, id_eq, Nat.lt_irrefl, srcOf, List.replicate_succ, List.replicate_zero, dite_true, List.isEmpty_cons, Option.isSome_some, List.length_append, List.length_singleton, bne_self_eq_false, Bool.not_true, Bool.not_false, conF, asArgs, asArg, asTy, asI1, asB1, asS1, asL1, canons, canon, Fork.true_, Fork.false_, bne, Bool.not_not, List.length_map, pickO, AS.over, TI.bl, bne_iff_ne, AS.over2, without, keys, List.mem_singleton, memOp2, memOp3, absorb, abInt, abBool, abStr, abList, gones, Int.toNat_natCast, List.take_length, subE, List.nodup_cons, List.nodup_nil, not_false_eq_true, Nat.sub_self, conR, asG, asI, asBo, asStr, asIs, asBs, asE4, asI2, asI3, asLL, asLLL, Th_int, Th_SSint, Th_Sint, Th_bool, Th_implCipher, Th_implDealing, Th_implFault, Th_implGroup, Th_implKeyGen, Th_implPartial, Th_implProof, Th_implSDealing, Th_implSFault, Th_implSPartial, Th_lawsCipher, Th_lawsDealing, Th_lawsGroup, Th_lawsKeyGen, Th_lawsPartial, Th_lawsProof, Th_lawsSDealing, Th_lawsSFault, Th_string, G_PlayDealersI, c_isSharing, c_arePlays, c_deal, c_exp, c_bad, c_evalPoly, hL])
    | ((with_reducible refine ens_step ?_ (fun hE => ?_)); · ((repeat' with_reducible apply And.intro) <;> first | with_reducible assumption | omega | exact True.intro | with_reducible rfl | (show ByteArray.size _ ≤ _; decide) | (simp; done) | (simp; omega) | rfl))
    | ((with_reducible refine And.intro ?_ ?_); · ((repeat' with_reducible apply And.intro) <;> first | with_reducible assumption | omega | exact True.intro | with_reducible rfl | (show ByteArray.size _ ≤ _; decide) | (simp; done) | (simp; omega) | rfl))
    | ((with_reducible refine Fork.intro (fun h' => ?_) (fun h' => ?_)) <;> (try simp only [Bool.not_eq_true', Bool.not_eq_false', bne] at h') <;> (replace hL := And.intro h' hL) <;> (try simp only [decide_eq_true_eq, decide_eq_false_iff_not, beq_iff_eq, beq_eq_false_iff_ne, ne_eq] at h') <;> (try (have hsh := shB_of h'; obtain ⟨hgd, hq7⟩ := hsh; have hG := M.goodB_of hgd; have hq2 := hG.q2; have hqp := hG.qp; have hp3 := hG.p3; have hpM := hG.pM)) <;> (try (have hap := apB_use h'; have hn7 := hap.n; have ht7 := hap.t; have hf20 := hap.f20)) <;> (try (have hcc := ncB_at hap.nc (k := k) (by omega); obtain ⟨hcl, hcb⟩ := hcc; have hdl := plS_ok (cfs := cfs) (fl := []) (k := k) hq2; obtain ⟨hdl1, hdl2⟩ := hdl; have hdc := dealC_len (p := p) (q := q) (g := g) (cs := cfs.getD k []); have hdb := dealC_bd (p := p) (q := q) (g := g) (cs := cfs.getD k []) hp3)) <;> (try (have hff := nfB_at hap.nf (m := m) (by omega); obtain ⟨hf1, hf2, hf3⟩ := hff; have hso := plS_ok (cfs := cfs) (fl := fl.take m) (k := k) hq2; obtain ⟨hso1, hso2⟩ := hso; have hsg := getD_bd' hso2 (k := ((fl.getD m ((0 : Int), (0 : Int), (0 : Int), false)).2.1 - 1).toNat) (by omega))) <;> (try (have hst := plS_t (q := q) (cfs := cfs) (fl := fl) (k := k) (m := m) (by omega) h'; have hsl := silF_t (fl := fl) (m := m) (by omega) h')) <;> (try (have hst := plS_f (q := q) (cfs := cfs) (fl := fl) (k := k) (m := m) (by omega) h'; have hsl := silF_f (fl := fl) (m := m) (by omega) h')) <;> (try (have hme : m = fl.length := (by omega); subst hme; have hse := plS_ok (cfs := cfs) (fl := fl) (k := k) hq2; obtain ⟨hse1, hse2⟩ := hse; have hble := badL_le p q g (dealC p q g (cfs.getD k [])) (plS q cfs fl k))) <;> (try (have hbj := badL_at (p := p) (q := q) (g := g) (cs := dealC p q g (cfs.getD k [])) (ss := (plS q cfs fl k)) (k := j) (by omega))) <;> (try (have hat := plN_t (p := p) (q := q) (g := g) (cfs := cfs) (fl := fl) (k := k) (j := j) h' (by omega); have has := plN_st (p := p) (q := q) (g := g) (cfs := cfs) (fl := fl) (k := k) (j := j) h' (by omega))) <;> (try (have haf := plN_f (p := p) (q := q) (g := g) (cfs := cfs) (fl := fl) (k := k) (j := j) h')) <;> (try (have hje : j = (badL p q g (dealC p q g (cfs.getD k [])) (plS q cfs fl k)).length := (by omega); subst hje; have hpd := PlD_step (p := p) (q := q) (g := g) (cfs := cfs) (fl := fl) (k := k); have hpa := PlA_step (p := p) (q := q) (g := g) (cfs := cfs) (fl := fl) (k := k))) <;> (try (have hke : k = cfs.length := (by omega); subst hke)))
    | (with_reducible refine AWp.skipS ?_)
    | ((with_reducible refine AWp.condT rfl ?_))
    | ((with_reducible refine AWp.condF rfl ?_))
    | (with_reducible refine AWp.condB rfl ?_)
    | ((with_reducible refine AWp.ret_id ?_); refine AWp.sub (Sub.nilSlot 6 200006 81 (.pair (.list .int) (.list .int)) rfl rfl) ?_)
    | ((with_reducible refine AWp.ret_id ?_); refine AWp.sub (Sub.nilSlot 7 200007 38 (.list .int) rfl rfl) ?_)
    | (with_reducible refine AWp.ret ?_)
    | (with_reducible refine seqQ_n ?_)
    | (with_reducible refine seqQ_ret ?_)
    | (with_reducible refine blkQ_ret ?_)
    | (with_reducible refine blkQ_n ?_)
    | (with_reducible refine seqQ_exit ?_)
    | (with_reducible refine blkQ_exit ?_)
    | (with_reducible refine blkQ_other (by decide) ?_)
    | (with_reducible refine AWp.block ?_)
    | (with_reducible refine AWp.exit ?_)
    | (with_reducible refine AWp.skip ?_)
    | ((with_reducible refine loop_id ?_); refine AWp.loopAt 5 rfl ?_; refine AWp.loopO [9, 10, 11, 12, 13, 14, 16, 17, 19, 34, 35, 36, 37, 38, 39, 40, 41, 42, 43, 44, 45, 46, 47, 48, 49, 50, 51, 52, 53, 54, 55, 56, 57, 58, 59, 60, 61, 62, 63, 64, 65, 66, 67, 68, 69, 70, 71, 72, 73, 74, 75, 76, 77, 78, 79, 80, 81, 82, 83, 84, 85, 86, 87, 88, 89, 90, 91, 92, 93, 94, 95, 96, 97, 98, 99, 100, 101, 102, 103, 104, 105, 106] (fun k => [(34, .lit (.int .i64 (k : Nat))), (9, .own 112 k), (10, .own 120 k)]) (fun k => [(112, .row 81 (.pair (.list .int) (.list .int)) (PlD p q g cfs fl k)), (120, .row 38 (.list .int) (PlA p q g cfs fl k))]) (fun k => k ≤ cfs.length) (fun k => cfs.length - k) 0 (by omega) (by refine Sub.auto (by first | exact frok0 | assumption) rfl rfl ?_ ?_ <;> (try simp only [subE, AS.over2, without, keys, look, List.cons_append, List.nil_append, List.append_nil, List.mem_cons, List.not_mem_nil, or_false, or_true, true_or, false_or, Nat.reduceEqDiff, ↓reduceIte, Option.some.injEq, AV.lit.injEq, Value.int.injEq, Value.bool.injEq, AV.own.injEq, AO.row.injEq, AO.box.injEq, List.cons.injEq, AV.agg.injEq, AV.sl.injEq, true_and, and_true, and_self, heq_eq_eq, List.length_nil, List.length_cons, List.map_nil, List.take_zero, Int.natCast_add, Int.cast_ofNat_Int, Int.natCast_zero, List.length_append, List.length_map, List.length_take, Nat.zero_add]) <;> ((repeat' apply And.intro) <;> first | rfl | (simp [PlD, PlA]; done))) (fun k hk_5 L5 hLoop5 => ?_); have hl1 := PlD_len (p := p) (q := q) (g := g) (cfs := cfs) (fl := fl) (k := k); have hl2 := PlA_len (p := p) (q := q) (g := g) (cfs := cfs) (fl := fl) (k := k))
    | ((with_reducible refine seqQ_f ?_); refine hLoop5 (k + 1) _ (by omega) (by omega) ?_; (refine Sub.auto (by first | exact frok0 | assumption) rfl rfl ?_ ?_ <;> (try simp only [subE, AS.over2, without, keys, look, List.cons_append, List.nil_append, List.append_nil, List.mem_cons, List.not_mem_nil, or_false, or_true, true_or, false_or, Nat.reduceEqDiff, ↓reduceIte, Option.some.injEq, AV.lit.injEq, Value.int.injEq, Value.bool.injEq, AV.own.injEq, AO.row.injEq, AO.box.injEq, List.cons.injEq, AV.agg.injEq, AV.sl.injEq, true_and, and_true, and_self, heq_eq_eq, List.length_nil, List.length_cons, List.map_nil, List.take_zero, Int.natCast_add, Int.cast_ofNat_Int, Int.natCast_zero, List.length_append, List.length_map, List.length_take, Nat.zero_add]) <;> ((repeat' apply And.intro) <;> first | rfl | omega | exact hpd | exact hpa | (simp; done))))
    | ((with_reducible refine loop_id ?_); refine AWp.loopAt 9 rfl ?_; refine AWp.loopO [14, 16, 46, 47, 48, 49, 50, 51, 52, 53, 54, 55, 56, 57, 58, 59, 60, 61, 62, 63, 64, 65, 66, 67, 68, 69, 70, 71, 72, 73, 74, 75, 76, 77, 78] (fun m => [(46, .lit (.int .i64 (m : Nat))), (14, .lit (.bool (!silF ((k : Int) + 1) (fl.take m))))]) (fun m => [(249, .row 3 .int (plS q cfs (fl.take m) k))]) (fun m => m ≤ fl.length) (fun m => fl.length - m) 0 (by omega) (by refine Sub.auto (by first | exact frok0 | assumption) rfl rfl ?_ ?_ <;> (try simp only [subE, AS.over2, without, keys, look, List.cons_append, List.nil_append, List.append_nil, List.mem_cons, List.not_mem_nil, or_false, or_true, true_or, false_or, Nat.reduceEqDiff, ↓reduceIte, Option.some.injEq, AV.lit.injEq, Value.int.injEq, Value.bool.injEq, AV.own.injEq, AO.row.injEq, AO.box.injEq, List.cons.injEq, AV.agg.injEq, AV.sl.injEq, true_and, and_true, and_self, heq_eq_eq, List.length_nil, List.length_cons, List.map_nil, List.take_zero, Int.natCast_add, Int.cast_ofNat_Int, Int.natCast_zero, List.length_append, List.length_map, List.length_take, Nat.zero_add]) <;> ((repeat' apply And.intro) <;> first | rfl | (simp [silF, plS, fltS]; done))) (fun m hm_9 L9 hLoop9 => ?_))
    | ((with_reducible refine seqQ_f ?_); refine hLoop9 (m + 1) _ (by omega) (by omega) ?_; (refine Sub.auto (by first | exact frok0 | assumption) rfl rfl ?_ ?_ <;> (try simp only [subE, AS.over2, without, keys, look, List.cons_append, List.nil_append, List.append_nil, List.mem_cons, List.not_mem_nil, or_false, or_true, true_or, false_or, Nat.reduceEqDiff, ↓reduceIte, Option.some.injEq, AV.lit.injEq, Value.int.injEq, Value.bool.injEq, AV.own.injEq, AO.row.injEq, AO.box.injEq, List.cons.injEq, AV.agg.injEq, AV.sl.injEq, true_and, and_true, and_self, heq_eq_eq, List.length_nil, List.length_cons, List.map_nil, List.take_zero, Int.natCast_add, Int.cast_ofNat_Int, Int.natCast_zero, List.length_append, List.length_map, List.length_take, Nat.zero_add]) <;> ((repeat' apply And.intro) <;> first | rfl | omega | exact hst | exact hst.symm | (rw [hsl]; done) | (rw [hsl]; simp only [hL, Bool.false_or, Bool.true_or, Bool.not_not, Bool.not_true, Bool.not_or]; done) | (rw [hsl]; simp [hL]; done))))
    | ((with_reducible refine loop_id ?_); refine AWp.loopAt 17 rfl ?_; refine AWp.loopO [17, 19, 84, 85, 86, 87, 88, 89, 90, 91, 92, 93, 94, 95, 96, 97] (fun j => [(84, .lit (.int .i64 (j : Nat))), (17, .own 312 (plN p q g cfs fl k j).length)]) (fun j => [(312, .row 3 .int (plN p q g cfs fl k j))]) (fun j => j ≤ (badL p q g (dealC p q g (cfs.getD k [])) (plS q cfs fl k)).length) (fun j => (badL p q g (dealC p q g (cfs.getD k [])) (plS q cfs fl k)).length - j) 0 (by omega) (by refine Sub.auto (by first | exact frok0 | assumption) rfl rfl ?_ ?_ <;> (try simp only [subE, AS.over2, without, keys, look, List.cons_append, List.nil_append, List.append_nil, List.mem_cons, List.not_mem_nil, or_false, or_true, true_or, false_or, Nat.reduceEqDiff, ↓reduceIte, Option.some.injEq, AV.lit.injEq, Value.int.injEq, Value.bool.injEq, AV.own.injEq, AO.row.injEq, AO.box.injEq, List.cons.injEq, AV.agg.injEq, AV.sl.injEq, true_and, and_true, and_self, heq_eq_eq, List.length_nil, List.length_cons, List.map_nil, List.take_zero, Int.natCast_add, Int.cast_ofNat_Int, Int.natCast_zero, List.length_append, List.length_map, List.length_take, Nat.zero_add]) <;> ((repeat' apply And.intro) <;> first | rfl | (simp [plN_0]; done))) (fun j hj_17 L17 hLoop17 => ?_); have hle := plN_le (p := p) (q := q) (g := g) (cfs := cfs) (fl := fl) (k := k) (j := j))
    | ((with_reducible refine seqQ_f ?_); refine hLoop17 (j + 1) _ (by omega) (by omega) ?_; (refine Sub.auto (by first | exact frok0 | assumption) rfl rfl ?_ ?_ <;> (try simp only [subE, AS.over2, without, keys, look, List.cons_append, List.nil_append, List.append_nil, List.mem_cons, List.not_mem_nil, or_false, or_true, true_or, false_or, Nat.reduceEqDiff, ↓reduceIte, Option.some.injEq, AV.lit.injEq, Value.int.injEq, Value.bool.injEq, AV.own.injEq, AO.row.injEq, AO.box.injEq, List.cons.injEq, AV.agg.injEq, AV.sl.injEq, true_and, and_true, and_self, heq_eq_eq, List.length_nil, List.length_cons, List.map_nil, List.take_zero, Int.natCast_add, Int.cast_ofNat_Int, Int.natCast_zero, List.length_append, List.length_map, List.length_take, Nat.zero_add]) <;> ((repeat' apply And.intro) <;> first | rfl | omega | exact hat | exact haf.symm | (rw [has]; done) | (rw [haf]; done) | (simp only [hL, Bool.not_true, Bool.not_false]; done))))
    | ((with_reducible refine EndsAt_id ?_); (try subst_vars); (try simp only [PPd, PPa, okPl, PlD_len, PlA_len, hL, List.length_cons, List.length_nil, Nat.zero_add, Nat.reduceAdd, Bool.and_true, Bool.and_false, Bool.true_and, Bool.false_and, Bool.and_self, ↓reduceIte, Bool.false_eq_true, Bool.not_true, Bool.not_false, bne]); refine EndsAt.done [_, _] (by first | exact .inr rfl | exact .inl rfl) rfl rfl ?_ ?_ <;> first | decide | (repeat' (first | rfl | apply And.intro | trivial)))
    | (with_reducible refine AWp.seq ?_)⟩
end Go.Proofs.Ytlggpehioflbdaa
