import Derived.Test.YtjapjmhifoeogaaZAI
/- Focus: an element of an own deep row is opened into own objects. -/
set_option linter.all false
set_option linter.unusedVariables false
set_option linter.unusedSimpArgs false
namespace Go.Proofs.Ytjapjmhifoeogaa
open Go.RowKit
section
variable {w0 : World} {get : Nat → Option AV} {obj : Nat → AO} {a : Act} {W : World} {ρ : Nat → Value} {β : Nat → List Nat}
end
section
variable {P : Program} {w0 : World} {N : Nat}
theorem AS.app_obj (σ : AS) (l : List (Nat × AO)) : (AS.mk σ.sl (l ++ σ.hp) σ.nx σ.fr).obj = setE σ.obj l := AS.upd_obj σ none .any l
theorem Sub.unfocus {σ : AS} (o : Nat) {e : TypeId} {t : Ty} {pre suf : List t.den} {cs : List AV} (hob : σ.obj o = .hol e t pre cs suf) {c : Prop} {x : t.den} {l : List (Nat × Nat)} (hs : absorb σ.obj t cs = some (c, x, l)) (hc : c) (hnd : (l.map (·.1)).Nodup) : Sub w0 N σ ⟨σ.sl, ((o, .row e t (pre ++ x :: suf)) :: gones l) ++ σ.hp, σ.nx, σ.fr⟩ := by
  rintro a W ⟨hN, ρ, β, h⟩
  obtain ⟨β', _, h'⟩ := h.unfocus hob hs hc hnd
  exact ⟨hN, ρ, β', by rw [AS.app_obj]; exact h'⟩
end
/-! marks of data -/
def Ty.cnt : (t : Ty) → t.den → Nat
  | .int, _ => 1
  | .bool, _ => 1
  | .str, _ => 0
  | .pair a b, x => a.cnt x.1 + b.cnt x.2
  | .list t, xs => (xs.map t.cnt).sum
def mkL {α : Type} (m : Int → α → α) (c : α → Nat) : Int → List α → List α
  | _, [] => []
  | k, x :: l => m k x :: mkL m c (k + c x) l
def Ty.mrk : (t : Ty) → Int → t.den → t.den
  | .int, k, _ => k
  | .bool, k, _ => k % 3 == 0
  | .str, _, s => s
  | .pair a b, k, x => (a.mrk k x.1, b.mrk (k + a.cnt x.1) x.2)
  | .list t, k, xs => mkL t.mrk t.cnt k xs
theorem mkL_len {α : Type} {m : Int → α → α} {c : α → Nat} : ∀ {xs : List α} {k : Int}, (mkL m c k xs).length = xs.length
  | [], _ => rfl
  | x :: l, k => by simp only [mkL, List.length_cons, mkL_len (xs := l)]
theorem cnt_mrk : ∀ (t : Ty) (k : Int) (x : t.den), t.cnt (t.mrk k x) = t.cnt x
  | .int, _, _ => rfl
  | .bool, _, _ => rfl
  | .str, _, _ => rfl
  | .pair a b, k, x => by simp only [Ty.cnt, Ty.mrk, cnt_mrk a, cnt_mrk b]
  | .list t, k, xs => by
    simp only [Ty.cnt, Ty.mrk]
    induction xs generalizing k with
    | nil => rfl
    | cons x l ih => simp only [mkL, List.map_cons, List.sum_cons, cnt_mrk t, ih]
theorem mrk_idem : ∀ (t : Ty) (k j : Int) (x : t.den), t.mrk k (t.mrk j x) = t.mrk k x
  | .int, _, _, _ => rfl
  | .bool, _, _, _ => rfl
  | .str, _, _, _ => rfl
  | .pair a b, k, j, x => by simp only [Ty.mrk, mrk_idem a, mrk_idem b, cnt_mrk]
  | .list t, k, j, xs => by
    simp only [Ty.mrk]
    induction xs generalizing k j with
    | nil => rfl
    | cons x l ih => simp only [mkL, mrk_idem t, cnt_mrk, ih]
theorem cnt_int (xs : List Int) : Ty.cnt (.list .int) xs = xs.length := by
  simp only [Ty.cnt]
  induction xs with
  | nil => rfl
  | cons x l ih => simp only [List.map_cons, List.sum_cons, List.length_cons, ih]; omega
theorem mrk_len (t : Ty) (k : Int) (xs : List t.den) : ((Ty.list t).mrk k xs : List t.den).length = xs.length := mkL_len
/-! sizes of data -/
/-! marks of rows -/
theorem cnt_nil {t : Ty} : Ty.cnt (.list t) [] = 0 := rfl
theorem cnt_cons {t : Ty} (x : t.den) (l : List t.den) : Ty.cnt (.list t) (x :: l) = t.cnt x + Ty.cnt (.list t) l := by simp [Ty.cnt]
theorem mrk_nil {t : Ty} {k : Int} : Ty.mrk (.list t) k [] = ([] : List t.den) := rfl
theorem mrk_cons {t : Ty} {k : Int} (x : t.den) (l : List t.den) : Ty.mrk (.list t) k (x :: l) = (t.mrk k x :: (Ty.mrk (.list t) (k + t.cnt x) l : List t.den) : List t.den) := rfl
/-- a step of a marking loop -/
structure MkI (t : Ty) (k : Int) (xs pre suf : List t.den) (kk : Int) : Prop where
  len : pre.length + suf.length = xs.length
  row : (Ty.mrk (.list t) k xs : List t.den) = pre ++ (Ty.mrk (.list t) kk suf : List t.den)
  tot : k + Ty.cnt (.list t) xs = kk + Ty.cnt (.list t) suf
  pos : 0 ≤ kk
theorem MkI.step {t : Ty} {k : Int} {xs pre suf : List t.den} {x : t.den} {kk : Int} (h : MkI t k xs pre (x :: suf) kk) : MkI t k xs (pre ++ [t.mrk kk x]) suf (kk + t.cnt x) := by
  obtain ⟨h1, h2, h3, h4⟩ := h
  refine ⟨by simp at h1 ⊢; omega, by rw [h2, mrk_cons]; simp, by rw [h3, cnt_cons]; omega, by omega⟩
theorem MkI.fin {t : Ty} {k : Int} {xs pre : List t.den} {kk : Int} (h : MkI t k xs pre [] kk) : pre = (Ty.mrk (.list t) k xs : List t.den) ∧ kk = k + Ty.cnt (.list t) xs := by
  obtain ⟨h1, h2, h3, h4⟩ := h
  refine ⟨by rw [h2, mrk_nil]; simp, by rw [h3, cnt_nil]; simp⟩
/-- a step of a loop that looks at marks -/
structure HdI (t : Ty) (k : Int) (xs pre suf : List t.den) (kk : Int) : Prop where
  cut : xs = pre ++ suf
  row : (Ty.mrk (.list t) kk suf : List t.den) = suf
  tot : k + Ty.cnt (.list t) xs = kk + Ty.cnt (.list t) suf
  pos : 0 ≤ kk
theorem HdI.step {t : Ty} {k : Int} {xs pre suf : List t.den} {x : t.den} {kk : Int} (h : HdI t k xs pre (x :: suf) kk) : HdI t k xs (pre ++ [x]) suf (kk + t.cnt x) := by
  obtain ⟨h1, h2, h3, h4⟩ := h
  rw [mrk_cons] at h2
  exact ⟨by rw [h1]; simp, (List.cons.inj h2).2, by rw [h3, cnt_cons]; omega, by omega⟩
theorem HdI.one {t : Ty} {k : Int} {xs pre suf : List t.den} {x : t.den} {kk : Int} (h : HdI t k xs pre (x :: suf) kk) (d : t.den) : t.mrk kk x = x ∧ xs.getD pre.length d = x := by
  obtain ⟨h1, h2, h3, h4⟩ := h
  rw [mrk_cons] at h2
  exact ⟨(List.cons.inj h2).1, by rw [h1]; simp [List.getD_eq_getElem?_getD]⟩
theorem HdI.len {t : Ty} {k : Int} {xs pre suf : List t.den} {kk : Int} (h : HdI t k xs pre suf kk) : pre.length + suf.length = xs.length := by rw [h.cut]; simp
def endsW (σ : AS) : Nat → List AO → Prop
  | _, [] => True
  | i, x :: r => σ.obj i = x ∧ endsW σ (i + 1) r
theorem endsW_get {σ : AS} : ∀ {rows : List AO} {i : Nat}, endsW σ i rows → ∀ (j : Nat) ob, rows[j]? = some ob → σ.obj (i + j) = ob
  | [], _, _, j, ob, h => by simp at h
  | x :: r, i, hs, j, ob, h => by
    cases j with
    | zero => simp at h; subst h; exact hs.1
    | succ j => rw [show i + (j + 1) = i + 1 + j by omega]; exact endsW_get hs.2 j ob (by simpa using h)
theorem EndsW.done {Θ : TypeId → Option TI} {rs : List ResultVar} {z z' : Int} {rows : List AO} {pin : AO} {e : Exit} {σ : AS} (he : e = .normal ∨ e = .ret) (hres : resAV Θ σ rs = some (.lit (.int .i64 z))) (hz : z = z') (hrows : endsW σ 1000001 rows) (hpin : σ.obj 1000000 = pin) : EndsW Θ rs (.int .i64 z') rows pin e σ :=
  ⟨he, by rw [hres, hz], fun i ob h => endsW_get hrows i ob h, hpin⟩
theorem EndsAt.int {Θ : TypeId → Option TI} {rs : List ResultVar} {z z' : Int} {e : Exit} {σ : AS} (he : e = .normal ∨ e = .ret) (hres : resAV Θ σ rs = some (.lit (.int .i64 z))) (hz : z = z') : EndsAt Θ rs (.lit (.int .i64 z')) [] e σ :=
  ⟨he, [], rfl, List.nodup_nil, by rw [hres, hz]; rfl, fun i ob h => by simp at h⟩
/-- lengths that fit -/
def Ty.fit : (t : Ty) → t.den → Prop
  | .int, _ => True
  | .bool, _ => True
  | .str, _ => True
  | .pair a b, x => a.fit x.1 ∧ b.fit x.2
  | .list t, xs => xs.length ≤ 9223372036854775807 ∧ ∀ x ∈ xs, t.fit x
end Go.Proofs.Ytjapjmhifoeogaa
