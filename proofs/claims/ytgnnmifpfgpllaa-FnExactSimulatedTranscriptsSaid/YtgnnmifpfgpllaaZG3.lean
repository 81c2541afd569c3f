import Derived.Test.YtgnnmifpfgpllaaZD50
import Derived.Test.YtgnnmifpfgpllaaZB4
import Derived.Shelf.SlSortCmp.NoneTotal
import Derived.Sort.OwnSortedInts
/- Own rows of transcripts that the library's slices.SortFunc sorts. -/
set_option linter.all false
set_option linter.unusedVariables false
set_option linter.unusedSimpArgs false
namespace Go.Proofs.Ytgnnmifpfgpllaa
open Go.RowKit
def encT (x : Int × Int × Int) : List Value := [.int .i64 x.1, .int .i64 x.2.1, .int .i64 x.2.2]
/-- a transcript before another one -/
def lexL (x y : Int × Int × Int) : Bool := decide (x.1 < y.1 ∨ (x.1 = y.1 ∧ (x.2.1 < y.2.1 ∨ (x.2.1 = y.2.1 ∧ x.2.2 < y.2.2))))
theorem cmpI_3 (x y : Int) : (x < y ∧ cmpI x y = -1) ∨ (x = y ∧ cmpI x y = 0) ∨ (y < x ∧ cmpI x y = 1) := by
  unfold cmpI
  by_cases h1 : x < y
  · exact .inl ⟨h1, if_pos h1⟩
  · by_cases h2 : y < x
    · exact .inr (.inr ⟨h2, by rw [if_neg h1, if_pos h2]⟩)
    · exact .inr (.inl ⟨by omega, by rw [if_neg h1, if_neg h2]⟩)
theorem trC_lt (x y : Int × Int × Int) : ltOf trC x y = lexL x y := by
  unfold ltOf trC lexL
  rw [decide_eq_decide]
  rcases cmpI_3 x.1 y.1 with ⟨h1, e1⟩ | ⟨h1, e1⟩ | ⟨h1, e1⟩ <;> rcases cmpI_3 x.2.1 y.2.1 with ⟨h2, e2⟩ | ⟨h2, e2⟩ | ⟨h2, e2⟩ <;> rcases cmpI_3 x.2.2 y.2.2 with ⟨h3, e3⟩ | ⟨h3, e3⟩ | ⟨h3, e3⟩ <;> rw [e1, e2, e3] <;> simp only [orI] <;> simp <;> omega
theorem lexL_swo : Sort.SWO (ltOf trC) where
  irrefl x := by rw [trC_lt]; simp [lexL]
  trans x y z h1 h2 := by rw [trC_lt] at *; simp only [lexL, decide_eq_true_eq] at *; omega
  ntrans x y z h1 h2 := by rw [trC_lt] at *; simp only [lexL, decide_eq_false_iff_not] at *; omega
theorem lexL_tot (x y : Int × Int × Int) (h1 : ltOf trC x y = false) (h2 : ltOf trC y x = false) : x = y := by
  rw [trC_lt] at *
  simp only [lexL, decide_eq_false_iff_not] at *
  obtain ⟨a, b, c⟩ := x
  obtain ⟨d, e, f⟩ := y
  simp only at *
  have e1 : a = d := by omega
  have e2 : b = e := by omega
  have e3 : c = f := by omega
  rw [e1, e2, e3]
/-- transcripts in their order -/
def srtT (xs : List (Int × Int × Int)) : List (Int × Int × Int) := xs.mergeSort fun x y => !lexL y x
theorem srtT_len {xs : List (Int × Int × Int)} : (srtT xs).length = xs.length := List.length_mergeSort ..
theorem srtT_eq (xs : List (Int × Int × Int)) : (xs.toArray.toList.mergeSort fun x y => !(ltOf trC) y x).toArray = (srtT xs).toArray := by
  unfold srtT
  congr 2
  funext x y
  rw [trC_lt]
theorem flat_T (xs : List (Int × Int × Int)) : (xs.map (Ty.vals (.pair .int (.pair .int .int)))).flatten = (xs.map encT).flatten := by
  congr 1
theorem flatT_len (xs : List (Int × Int × Int)) : ((xs.map encT).flatten).length = xs.length * 3 := by
  induction xs with
  | nil => rfl
  | cons x l ih => rw [List.map_cons, List.flatten_cons, List.length_append, ih]; simp [encT]; omega
theorem flatT_get : ∀ (xs : List (Int × Int × Int)) (t : Nat), t < xs.length * 3 → ((xs.map encT).flatten)[t]! = (encT xs[t / 3]!)[t % 3]!
  | [], t, h => by simp at h
  | x :: l, t, h => by
    rw [List.map_cons, List.flatten_cons]
    by_cases h3 : t < 3
    · have e1 : t / 3 = 0 := by omega
      have e2 : t % 3 = t := by omega
      rw [e1, e2]
      have : t < (encT x).length := by simp [encT]; omega
      rw [getElem!_pos _ t (by rw [List.length_append]; omega), List.getElem_append_left this, getElem!_pos _ t (by simpa using this)]
      rfl
    · have e0 : (encT x).length = 3 := rfl
      have e1 : t / 3 = (t - 3) / 3 + 1 := by omega
      have e2 : t % 3 = (t - 3) % 3 := by omega
      have ih := flatT_get l (t - 3) (by simp only [List.length_cons] at h; omega)
      have hl := flatT_len l
      simp only [List.length_cons] at h
      have hlt : t - 3 < ((l.map encT).flatten).length := by omega
      rw [getElem!_pos _ t (by rw [List.length_append]; omega), List.getElem_append_right (by omega), e1, e2]
      rw [getElem!_pos _ (t - 3) hlt] at ih
      simp only [e0]
      rw [ih]; simp
theorem flatK_T (xs : List (Int × Int × Int)) : Sort.flatK encT 3 xs.toArray = ((xs.map encT).flatten).toArray := by
  have hs : (Sort.flatK encT 3 xs.toArray).size = (((xs.map encT).flatten).toArray).size := by
    rw [Sort.size_flatK, List.size_toArray, List.size_toArray, flatT_len]
  refine Array.ext hs fun t h1 h2 => ?_
  have h3 : t < xs.length * 3 := by simpa using h1
  have g1 := Sort.get_flatK encT 3 xs.toArray t (by simpa using h3)
  have g2 := flatT_get xs t h3
  rw [getElem!_pos _ t h1] at g1
  rw [getElem!_pos _ t (by rw [flatT_len]; exact h3)] at g2
  rw [g1, List.getElem_toArray, g2]
  congr 2
  have : t / 3 < xs.length := by omega
  simp [this]
theorem holds_of_blockV {w : World} {g : Nat} {cur : Array Value} {e : TypeId} {F : Array Value} (hb : w.heap[g]? = some (.cells cur e (0, 0))) (ht : cur.toList.take F.size = F.toList) : Sort.Holds id w g 0 F := by
  intro j hj
  refine ⟨?_, by simp [World.frozen?, hb]⟩
  have h1 : (cur.toList.take F.size)[j]? = F.toList[j]? := by rw [ht]
  rw [List.getElem?_take_of_lt hj] at h1
  simp only [World.cell?, hb, Nat.zero_add]
  simp only [Option.isSome_none, Bool.false_eq_true, if_false]
  rw [← Array.getElem?_toList, h1]
  simp [hj]
theorem grownBy_V {w : World} {g n : Nat} {os : Array Obj} (d : Array Value) : w.grownBy (Sort.grow (Sort.putRow id (Sort.ahead w n) g 0 d) os) (some g) := by
  refine ⟨rfl, rfl, rfl, by simp, fun k hk hne => ?_⟩
  rw [Sort.heap_grow_old _ _ (by simpa using hk)]
  have : g ≠ k := fun e => hne (by rw [e])
  simp [Sort.putRow, Sort.mapBlock, Sort.ahead, Array.getElem?_modify, this]
theorem ownsRow_V {w : World} {base g cap n m sz : Nat} {e : TypeId} {os : Array Obj} {cur : Array Value} {F : Array Value} (hl : F.size = m * sz) (hbase : base ≤ g) (hb : w.heap[g]? = some (.cells cur e (0, 0)))
    (h1 : m ≤ cap) (h2 : cap ≤ maxLen) (h3 : cur.size = cap * sz) :
    (Sort.grow (Sort.putRow id (Sort.ahead w n) g 0 F) os).ownsRow base e sz (.slice (some ⟨g, 0, none⟩) m cap) m F.toList := by
  have hg : g < w.heap.size := (Array.getElem?_eq_some_iff.1 hb).1
  refine ⟨by simp [hl], .inr ⟨g, cap, Sort.putCells id 0 F cur, rfl, hbase, ?_, h1, h2, by simp [Sort.putCells, h3], ?_⟩⟩
  · rw [Sort.heap_grow_old _ _ (by simpa using hg)]
    simp [Sort.putRow, Sort.mapBlock, Sort.ahead, Array.getElem?_modify, hb, Sort.onCells]
  · have hle : F.size ≤ cur.size := by rw [hl, h3]; exact Nat.mul_le_mul_right _ h1
    rw [← hl]
    apply List.ext_getElem?
    intro j
    by_cases hj : j < F.size
    · rw [List.getElem?_take_of_lt hj, Array.getElem?_toList]
      simp [Sort.putCells, hj, show j < cur.size by omega]
    · rw [List.getElem?_take_eq_none (by omega), List.getElem?_eq_none (by simpa using hj)]
/-- slices.SortFunc of an own row of transcripts, by function g -/
def Con.srtF (g : FuncId) : Con where
  run _ h args := match args with
    | [.own o n, .fn (.func g') []] => match h o with
      | .row e (.pair .int (.pair .int .int)) xs => if g' = g then some (n = xs.length ∧ xs.length ≤ 1000000, .lit (.tuple #[]), [(o, .row e (.pair .int (.pair .int .int)) (srtT xs))], [o]) else none
      | _ => none
    | _ => none
  congr nid h h' args r hs hh := by
    revert hs
    split
    · rename_i o n g'
      split
      · rename_i e xs h1
        split
        · rename_i hg
          intro hs; cases hs
          rw [← hh o (by simp), h1]
          try simp only [hg, if_true]
        · intro hs; cases hs
      · intro hs; cases hs
    · intro hs; cases hs
theorem okSrtF {ρ : Go.Shelf.Ren} (L : SlLaysF0.n6 Try.prog ρ) (aE : ∀ w, (isAgg (ρ.t 24)).run Try.prog w = .ok true w) (zE : ∀ w, (Go.sizeOf (ρ.t 24)).run Try.prog w = .ok 3 w) (eg : ∀ args w, (callFunc 97 args).run Try.prog w = .ok (.enter 97 args) w) (hent : ∀ args w, (callFunc (ρ.f 6) args).run Try.prog w = .ok (.enter (ρ.f 6) args) w) : (Con.srtF 97).ok Try.prog (ρ.f 6) := by
  refine ⟨hent, fun w0 get obj a W ρ0 β h nid args c x eff tch hm hc vs hv => ?_⟩
  simp only [Con.srtF] at hm
  split at hm
  rotate_left
  · cases hm
  rename_i o n g'
  split at hm
  rotate_left
  · cases hm
  rename_i e xs hob
  split at hm
  rotate_left
  · cases hm
  rename_i hgg
  cases hm
  obtain ⟨hn, hl⟩ := hc
  obtain ⟨v1, vs, rfl, r1, hv⟩ := hv.cons_of
  obtain ⟨v2, vs, rfl, r2, hv⟩ := hv.cons_of
  obtain rfl := hv.nil_of
  obtain ⟨us, rfl, hus⟩ := r2.fn_of
  obtain rfl := hus.nil_of
  obtain ⟨hu, hown⟩ := h.whole hob hn r1
  subst hu hn hgg
  obtain ⟨g1, g2⟩ := (ownL_flat (t := .pair .int (.pair .int .int)) rfl).1 hown
  rw [flat_T] at g1
  have hsz3 : Ty.sz (.pair .int (.pair .int .int)) = 3 := rfl
  rw [hsz3] at g1
  by_cases hx : xs = []
  · subst hx
    obtain ⟨A, cc, e1, _, _⟩ := own_hs g1
    rw [e1]
    refine (AnyF.slices_SortFunc_none L A cc _ W).mono ?_
    rintro en w' ⟨rfl, rfl⟩
    have hset : setE obj [(o, .row e (.pair .int (.pair .int .int)) (srtT []))] = obj := by
      funext k
      simp only [setE, setO]
      split
      · rename_i hk; subst hk; rw [hob, show srtT [] = [] from by simp [srtT]]
      · rfl
    rw [hset]
    exact ⟨_, ρ0, β, rfl, .lit _, h⟩
  · have hpos : 0 < xs.length := List.length_pos_iff.2 hx
    rcases g1.2 with ⟨_, hz⟩ | ⟨g, cap, cur, hvo, hbase, hb, hnc, hmx, hcs, htk⟩
    · omega
    have hlt : g < W.heap.size := (Array.getElem?_eq_some_iff.1 hb).1
    have hfl := flatT_len xs
    have hH : Sort.HoldsK encT 3 W g 0 xs.toArray := by
      unfold Sort.HoldsK
      rw [flatK_T]
      refine holds_of_blockV hb ?_
      simp only [List.size_toArray, hfl]
      exact htk
    have hcall := AnyQ.slices_SortFunc_total L 3 aE zE encT (fun _ => rfl) (fun x v hv => by simp only [encT, List.mem_cons, List.not_mem_nil, or_false] at hv; rcases hv with rfl | rfl | rfl <;> rfl) trC lexL_swo _ #[] g 0 cap xs.toArray W eg (fun _ _ _ _ x y => trC_any x.1 x.2.1 x.2.2 y.1 y.2.1 y.2.2 _) hH hlt (by simp; omega) lexL_tot
    rw [hvo]
    have hsz : xs.toArray.size = xs.length := by simp
    rw [show ([.slice (some ⟨g, 0, none⟩) xs.length cap, .func (.func 97) #[] ([] : List Value).toArray] : List Value).toArray = #[.slice (some ⟨g, 0, none⟩) xs.toArray.size cap, .func (.func 97) #[] #[]] by rw [hsz]]
    refine hcall.mono ?_
    rintro en w' ⟨rfl, q, os, rfl⟩
    rw [srtT_eq]
    have hyl : (srtT xs).length = xs.length := srtT_len
    have hyf := flatT_len (srtT xs)
    have hwd : sortWorldK encT 3 W g 0 q (srtT xs).toArray os = Sort.grow (Sort.putRow id (Sort.ahead W q) g 0 (((srtT xs).map encT).flatten).toArray) os := by
      unfold sortWorldK Sort.putRowK
      rw [flatK_T]
    rw [hwd]
    have hgr : W.grownBy (Sort.grow (Sort.putRow id (Sort.ahead W q) g 0 (((srtT xs).map encT).flatten).toArray) os) (some g) := grownBy_V _
    have hob' : ownL (Sort.grow (Sort.putRow id (Sort.ahead W q) g 0 (((srtT xs).map encT).flatten).toArray) os) w0.heap.size e (.pair .int (.pair .int .int)) (srtT xs) (ρ0 o) (β o) := by
      refine (ownL_flat (t := .pair .int (.pair .int .int)) rfl).2 ⟨?_, g2⟩
      rw [flat_T, hvo, hyl, hsz3]
      exact ownsRow_V (F := (((srtT xs).map encT).flatten).toArray) (by rw [List.size_toArray, hyf, hyl]) hbase hb hnc hmx hcs
    have hbo : β o = [g] := by rw [g2, hvo]; rfl
    have htouch := h.touch (l := [(o, .row e (.pair .int (.pair .int .int)) (srtT xs))]) (W' := Sort.grow (Sort.putRow id (Sort.ahead W q) g 0 (((srtT xs).map encT).flatten).toArray) os) (fun p hp => by
      simp only [List.mem_singleton] at hp; subst hp
      exact ⟨⟨e, .pair .int (.pair .int .int), srtT xs, rfl, hob'⟩, xs.length, by rw [hob]; rfl, by simp [AO.len, hyl]⟩) (us := [.slice (some ⟨g, 0, none⟩) xs.length cap]) (Touch.of_grown (v := .slice (some ⟨g, 0, none⟩) xs.length cap) hgr (List.mem_singleton.2 rfl)) fun k hk hkp => hgr.block k hk fun e' => hkp (o, .row e (.pair .int (.pair .int .int)) (srtT xs)) (List.mem_singleton.2 rfl) (by
        injection e' with e'
        show k ∈ β o
        rw [hbo, ← e']; simp)
    exact ⟨_, ρ0, β, rfl, .lit _, htouch.2⟩
def ρSrf : Go.Shelf.Ren := ⟨fun | 6 => 96 | 15 => 111 | 14 => 110 | 28 => 125 | 29 => 126 | 20 => 117 | 21 => 118 | 22 => 119 | 23 => 120 | 24 => 121 | 25 => 122 | 26 => 123 | 27 => 124 | 46 => 130 | 47 => 131 | 48 => 132 | 49 => 133 | 50 => 134 | 57 => 139 | n => n, fun | 22 => 58 | 24 => 88 | 25 => 112 | 3 => 3 | 39 => 81 | 0 => 0 | 53 => 129 | 55 => 131 | 4 => 4 | 46 => 123 | 45 => 122 | 50 => 115 | 5 => 5 | 9 => 9 | 66 => 135 | 70 => 139 | 76 => 143 | 77 => 144 | n => n, fun n => n⟩
set_option maxRecDepth 100000 in
theorem lays_Srf : SlLaysF0.n6 Try.prog ρSrf where
  mixed := by kernel_rfl
  f6 := ⟨(Try.f96).name, by kernel_rfl, Try.func96.trans (congrArg some (by kernel_rfl))⟩
  f14 := ⟨(Try.f110).name, by kernel_rfl, Try.func110.trans (congrArg some (by kernel_rfl))⟩
  f15 := Try.func111.trans (congrArg some (by kernel_rfl))
  f20 := ⟨(Try.f117).name, by kernel_rfl, Try.func117.trans (congrArg some (by kernel_rfl))⟩
  f21 := ⟨(Try.f118).name, by kernel_rfl, Try.func118.trans (congrArg some (by kernel_rfl))⟩
  f22 := ⟨(Try.f119).name, by kernel_rfl, Try.func119.trans (congrArg some (by kernel_rfl))⟩
  f23 := ⟨(Try.f120).name, by kernel_rfl, Try.func120.trans (congrArg some (by kernel_rfl))⟩
  f24 := ⟨(Try.f121).name, by kernel_rfl, Try.func121.trans (congrArg some (by kernel_rfl))⟩
  f25 := ⟨(Try.f122).name, by kernel_rfl, Try.func122.trans (congrArg some (by kernel_rfl))⟩
  f26 := ⟨(Try.f123).name, by kernel_rfl, Try.func123.trans (congrArg some (by kernel_rfl))⟩
  f27 := ⟨(Try.f124).name, by kernel_rfl, Try.func124.trans (congrArg some (by kernel_rfl))⟩
  f28 := Try.func125.trans (congrArg some (by kernel_rfl))
  f29 := Try.func126.trans (congrArg some (by kernel_rfl))
  f46 := ⟨(Try.f130).name, by kernel_rfl, Try.func130.trans (congrArg some (by kernel_rfl))⟩
  f47 := Try.func131.trans (congrArg some (by kernel_rfl))
  f48 := Try.func132.trans (congrArg some (by kernel_rfl))
  f49 := ⟨(Try.f133).name, by kernel_rfl, Try.func133.trans (congrArg some (by kernel_rfl))⟩
  f50 := ⟨(Try.f134).name, by kernel_rfl, Try.func134.trans (congrArg some (by kernel_rfl))⟩
  f57 := ⟨(Try.f139).name, by kernel_rfl, Try.func139.trans (congrArg some (by kernel_rfl))⟩
  t0 := Try.underlying0
  a0 := Try.isAgg0
  z0 := Try.sizeOf0
  v0 := Try.zeroValue0
  t3 := Try.underlying3
  a3 := Try.isAgg3
  z3 := Try.sizeOf3
  v3 := Try.zeroValue3
  t4 := Try.underlying4
  a4 := Try.isAgg4
  z4 := Try.sizeOf4
  v4 := Try.zeroValue4
  t5 := Try.underlying5
  a5 := Try.isAgg5
  z5 := Try.sizeOf5
  v5 := Try.zeroValue5
  t9 := Try.underlying9
  a9 := Try.isAgg9
  z9 := Try.sizeOf9
  v9 := Try.zeroValue9
  t22 := Try.underlying58
  a22 := Try.isAgg58
  z22 := Try.sizeOf58
  v22 := Try.zeroValue58
  t25 := Try.underlying112
  a25 := Try.isAgg112
  z25 := Try.sizeOf112
  v25 := Try.zeroValue112
  t39 := Try.underlying81
  a39 := Try.isAgg81
  z39 := Try.sizeOf81
  v39 := Try.zeroValue81
  t45 := Try.underlying122
  a45 := Try.isAgg122
  z45 := Try.sizeOf122
  v45 := Try.zeroValue122
  t46 := Try.underlying123
  a46 := Try.isAgg123
  z46 := Try.sizeOf123
  v46 := Try.zeroValue123
  t50 := Try.underlying115
  a50 := Try.isAgg115
  z50 := Try.sizeOf115
  v50 := Try.zeroValue115
  t53 := Try.underlying129
  a53 := Try.isAgg129
  z53 := Try.sizeOf129
  v53 := Try.zeroValue129
  t55 := Try.underlying131
  a55 := Try.isAgg131
  z55 := Try.sizeOf131
  v55 := Try.zeroValue131
  t66 := Try.underlying135
  a66 := Try.isAgg135
  z66 := Try.sizeOf135
  v66 := Try.zeroValue135
  t70 := Try.underlying139
  a70 := Try.isAgg139
  z70 := Try.sizeOf139
  v70 := Try.zeroValue139
  t76 := Try.underlying143
  a76 := Try.isAgg143
  z76 := Try.sizeOf143
  v76 := Try.zeroValue143
  t77 := Try.underlying144
  a77 := Try.isAgg144
  z77 := Try.sizeOf144
  v77 := Try.zeroValue144
def c_w_SortFunc : Con := Con.srtF 97
def sel_w_SortFunc : Nat := 0
theorem ok_w_SortFunc : c_w_SortFunc.ok Try.prog 96 := okSrtF (ρ := ρSrf) lays_Srf Try.isAgg88 Try.sizeOf88 (enter_of Try.func97 (by kernel_rfl) (by kernel_rfl)) (enter_of Try.func96 (by kernel_rfl) (by kernel_rfl))
end Go.Proofs.Ytgnnmifpfgpllaa
