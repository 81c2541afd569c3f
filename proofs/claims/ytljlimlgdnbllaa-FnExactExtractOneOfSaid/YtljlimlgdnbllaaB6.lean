import Derived.Test.YtljlimlgdnbllaaB5
import Derived.Test.YtljlimlgdnbllaaL1
/- Contracts of the laws' own functions. -/
set_option linter.all false
set_option linter.unusedVariables false
set_option linter.unusedSimpArgs false
namespace Go.Proofs.Ytljlimlgdnbllaa
open Go.RowKit
noncomputable def c_toGroup : Con0 := fun args => match args with
  | [a0] => match asG a0 with
    | some (p, q, g) => some (True, .agg [.lit (.int .i64 (p)), .lit (.int .i64 (q)), .lit (.int .i64 (g))], [])
    | _ => none
  | _ => none
set_option linter.unusedVariables false in
theorem ok_toGroup : (mk c_toGroup).ok Try.prog 18 := Con0.okLit (enter_of Try.func18 (by kernel_rfl) (by kernel_rfl)) fun args c x obs h => by
  unfold c_toGroup at h
  split at h
  · split at h
    · rename_i p q g e0
      cases h
      refine ⟨rfl, _, rfl, fun hc w vs hv => ?_⟩
      obtain ⟨u0, vs, rfl, r0, h0⟩ := hv.cons_of
      rw [h0.nil_of]
      obtain rfl := asG_sound e0 r0
      exact toGroup_any p q g _
    · cases h
  · cases h
noncomputable def c_toIntS : Con0 := fun args => match args with
  | [a0] => match asIs a0 with
    | some xs => some (xs.length ≤ 35184372088832, .own 0 xs.length, [.row 3 .int xs])
    | _ => none
  | _ => none
set_option linter.unusedVariables false in
theorem ok_toIntS : (mk c_toIntS).ok Try.prog 20 := Con0.okRows (enter_of Try.func20 (by kernel_rfl) (by kernel_rfl)) fun args c x obs h => by
  unfold c_toIntS at h
  split at h
  · split at h
    · rename_i xs e0
      cases h
      refine ⟨rfl, [xs], rfl, fun hc w vs hv => ?_⟩
      obtain ⟨u0, vs, rfl, r0, h0⟩ := hv.cons_of
      rw [h0.nil_of]
      obtain ⟨A_xs, c_xs, rfl, hx_xs, hl_xs, hc_xs⟩ := asIs_sound e0 r0
      refine (toIntS_any A_xs c_xs xs hc _ hx_xs).mono ?_
      rintro en w' ⟨B0, d0, rfl, hoi, hb⟩
      refine ⟨[.slice B0 xs.length d0], rfl, OIs.mk1 hoi, hb, _, rfl, fun D m hr => ?_⟩
      exact hr.out.1
    · cases h
  · cases h
noncomputable def c_toBases : Con0 := fun args => match args with
  | [a0] => match asBs a0 with
    | some (bh, bs) => some (bs.length ≤ 35184372088832, .agg [.lit (.int .i64 (bh)), .own 0 bs.length], [.row 3 .int bs])
    | _ => none
  | _ => none
set_option linter.unusedVariables false in
theorem ok_toBases : (mk c_toBases).ok Try.prog 19 := Con0.okRows (enter_of Try.func19 (by kernel_rfl) (by kernel_rfl)) fun args c x obs h => by
  unfold c_toBases at h
  split at h
  · split at h
    · rename_i bh bs e0
      cases h
      refine ⟨rfl, [bs], rfl, fun hc w vs hv => ?_⟩
      obtain ⟨u0, vs, rfl, r0, h0⟩ := hv.cons_of
      rw [h0.nil_of]
      obtain ⟨z0, rfl, A_bs, c_bs, rfl, hx_bs, hl_bs, hc_bs⟩ := asBs_sound e0 r0
      refine (toBases_any bh A_bs c_bs bs hc _ hx_bs).mono ?_
      rintro en w' ⟨B0, d0, rfl, hoi, hb⟩
      refine ⟨[.slice B0 bs.length d0], rfl, OIs.mk1 hoi, hb, _, rfl, fun D m hr => ?_⟩
      exact Rep.agg' (.cons (.lit _) hr)
    · cases h
  · cases h
noncomputable def c_toProof : Con0 := fun args => match args with
  | [a0] => match asLLL a0 with
    | some (pa, pc, pr) => some (pa.length ≤ 35184372088832 ∧ pc.length ≤ 35184372088832 ∧ pr.length ≤ 35184372088832, .agg [.own 0 pa.length, .own 1 pc.length, .own 2 pr.length], [.row 3 .int pa, .row 3 .int pc, .row 3 .int pr])
    | _ => none
  | _ => none
set_option linter.unusedVariables false in
theorem ok_toProof : (mk c_toProof).ok Try.prog 21 := Con0.okRows (enter_of Try.func21 (by kernel_rfl) (by kernel_rfl)) fun args c x obs h => by
  unfold c_toProof at h
  split at h
  · split at h
    · rename_i pa pc pr e0
      cases h
      refine ⟨rfl, [pa, pc, pr], rfl, fun hc w vs hv => ?_⟩
      obtain ⟨u0, vs, rfl, r0, h0⟩ := hv.cons_of
      rw [h0.nil_of]
      obtain ⟨z0_0, z0_1, z0_2, rfl, y0_0, y0_1, y0_2⟩ := asLLL_sound e0 r0
      obtain ⟨A_pa, c_pa, rfl, hx_pa, hl_pa, hc_pa⟩ := y0_0
      obtain ⟨A_pc, c_pc, rfl, hx_pc, hl_pc, hc_pc⟩ := y0_1
      obtain ⟨A_pr, c_pr, rfl, hx_pr, hl_pr, hc_pr⟩ := y0_2
      refine (toProof_any A_pa c_pa pa hc.1 A_pc c_pc pc hc.2.1 A_pr c_pr pr hc.2.2 _ hx_pa hx_pc hx_pr).mono ?_
      rintro en w' ⟨B0, d0, B1, d1, B2, d2, rfl, hoi, hb⟩
      refine ⟨[.slice B0 pa.length d0, .slice B1 pc.length d1, .slice B2 pr.length d2], rfl, hoi, hb, _, rfl, fun D m hr => ?_⟩
      exact Rep.agg' hr
    · cases h
  · cases h
noncomputable def c_szIntS : Con0 := fun args => match args with
  | [a0, a1] => match asIs a0, asI a1 with
    | some xs, some l => some ((l ≤ 1048576 ∧ -1 ≤ l), .lit (.int .i64 (if l - xs.length < 0 then -1 else l - xs.length)), [])
    | _, _ => none
  | _ => none
set_option linter.unusedVariables false in
theorem ok_szIntS : (mk c_szIntS).ok Try.prog 61 := Con0.okLit (enter_of Try.func61 (by kernel_rfl) (by kernel_rfl)) fun args c x obs h => by
  unfold c_szIntS at h
  split at h
  · split at h
    · rename_i xs l e0 e1
      cases h
      refine ⟨rfl, _, rfl, fun hc w vs hv => ?_⟩
      obtain ⟨u0, vs, rfl, r0, h0⟩ := hv.cons_of
      obtain ⟨u1, vs, rfl, r1, h1⟩ := h0.cons_of
      rw [h1.nil_of]
      obtain ⟨A_xs, c_xs, rfl, hx_xs, hl_xs, hc_xs⟩ := asIs_sound e0 r0
      obtain rfl := asI_sound e1 r1
      exact Calls.keep (szIntS_any A_xs xs.length c_xs l hc.1 hc.2 hl_xs _)
    · cases h
  · cases h
noncomputable def c_szBases : Con0 := fun args => match args with
  | [a0, a1] => match asBs a0, asI a1 with
    | some (bh, bs), some l => some ((l ≤ 1048576 ∧ -1 ≤ l), .lit (.int .i64 (if l - bs.length < 0 then -1 else l - bs.length)), [])
    | _, _ => none
  | _ => none
set_option linter.unusedVariables false in
theorem ok_szBases : (mk c_szBases).ok Try.prog 15 := Con0.okLit (enter_of Try.func15 (by kernel_rfl) (by kernel_rfl)) fun args c x obs h => by
  unfold c_szBases at h
  split at h
  · split at h
    · rename_i bh bs l e0 e1
      cases h
      refine ⟨rfl, _, rfl, fun hc w vs hv => ?_⟩
      obtain ⟨u0, vs, rfl, r0, h0⟩ := hv.cons_of
      obtain ⟨u1, vs, rfl, r1, h1⟩ := h0.cons_of
      rw [h1.nil_of]
      obtain ⟨z0, rfl, A_bs, c_bs, rfl, hx_bs, hl_bs, hc_bs⟩ := asBs_sound e0 r0
      obtain rfl := asI_sound e1 r1
      exact szBases_any bh A_bs bs.length c_bs l hc.1 hc.2 hl_bs _
    · cases h
  · cases h
noncomputable def c_szProof : Con0 := fun args => match args with
  | [a0, a1] => match asLLL a0, asI a1 with
    | some (pa, pc, pr), some l => some ((l ≤ 1048576 ∧ -1 ≤ l), .lit (.int .i64 (if l - pa.length - pc.length - pr.length < 0 then -1 else l - pa.length - pc.length - pr.length)), [])
    | _, _ => none
  | _ => none
set_option linter.unusedVariables false in
theorem ok_szProof : (mk c_szProof).ok Try.prog 16 := Con0.okLit (enter_of Try.func16 (by kernel_rfl) (by kernel_rfl)) fun args c x obs h => by
  unfold c_szProof at h
  split at h
  · split at h
    · rename_i pa pc pr l e0 e1
      cases h
      refine ⟨rfl, _, rfl, fun hc w vs hv => ?_⟩
      obtain ⟨u0, vs, rfl, r0, h0⟩ := hv.cons_of
      obtain ⟨u1, vs, rfl, r1, h1⟩ := h0.cons_of
      rw [h1.nil_of]
      obtain ⟨z0_0, z0_1, z0_2, rfl, y0_0, y0_1, y0_2⟩ := asLLL_sound e0 r0
      obtain ⟨A_pa, c_pa, rfl, hx_pa, hl_pa, hc_pa⟩ := y0_0
      obtain ⟨A_pc, c_pc, rfl, hx_pc, hl_pc, hc_pc⟩ := y0_1
      obtain ⟨A_pr, c_pr, rfl, hx_pr, hl_pr, hc_pr⟩ := y0_2
      obtain rfl := asI_sound e1 r1
      exact szProof_any A_pa c_pa pa hl_pa A_pc c_pc pc hl_pc A_pr c_pr pr hl_pr l hc.1 hc.2 _
    · cases h
  · cases h
noncomputable def c_eqIntS : Con0 := fun args => match args with
  | [a0, a1] => match asIs a0, asIs a1 with
    | some xs, some ys => some (ys = xs, .lit (.bool (true)), [])
    | _, _ => none
  | _ => none
set_option linter.unusedVariables false in
theorem ok_eqIntS : (mk c_eqIntS).ok Try.prog 24 := Con0.okLit (enter_of Try.func24 (by kernel_rfl) (by kernel_rfl)) fun args c x obs h => by
  unfold c_eqIntS at h
  split at h
  · split at h
    · rename_i xs ys e0 e1
      cases h
      refine ⟨rfl, _, rfl, fun hc w vs hv => ?_⟩
      obtain ⟨u0, vs, rfl, r0, h0⟩ := hv.cons_of
      obtain ⟨u1, vs, rfl, r1, h1⟩ := h0.cons_of
      rw [h1.nil_of]
      obtain ⟨A_xs, c_xs, rfl, hx_xs, hl_xs, hc_xs⟩ := asIs_sound e0 r0
      obtain ⟨A_ys, c_ys, rfl, hx_ys, hl_ys, hc_ys⟩ := asIs_sound e1 r1
      exact by
        have hc : ys = xs := hc
        subst hc
        exact eqIntS_same A_xs A_ys c_xs c_ys ys hl_ys _ hx_xs hx_ys
    · cases h
  · cases h
noncomputable def c_eqBases : Con0 := fun args => match args with
  | [a0, a1] => match asBs a0, asBs a1 with
    | some (bh, bs), some (bh', bs') => some (bh' = bh ∧ bs' = bs, .lit (.bool (true)), [])
    | _, _ => none
  | _ => none
set_option linter.unusedVariables false in
theorem ok_eqBases : (mk c_eqBases).ok Try.prog 23 := Con0.okLit (enter_of Try.func23 (by kernel_rfl) (by kernel_rfl)) fun args c x obs h => by
  unfold c_eqBases at h
  split at h
  · split at h
    · rename_i bh bs bh' bs' e0 e1
      cases h
      refine ⟨rfl, _, rfl, fun hc w vs hv => ?_⟩
      obtain ⟨u0, vs, rfl, r0, h0⟩ := hv.cons_of
      obtain ⟨u1, vs, rfl, r1, h1⟩ := h0.cons_of
      rw [h1.nil_of]
      obtain ⟨z0, rfl, A_bs, c_bs, rfl, hx_bs, hl_bs, hc_bs⟩ := asBs_sound e0 r0
      obtain ⟨z1, rfl, A_bs', c_bs', rfl, hx_bs', hl_bs', hc_bs'⟩ := asBs_sound e1 r1
      exact by
        obtain ⟨rfl, rfl⟩ := hc
        exact eqBases_same bh' A_bs A_bs' c_bs c_bs' bs' hl_bs' _ hx_bs hx_bs'
    · cases h
  · cases h
noncomputable def c_eqProof : Con0 := fun args => match args with
  | [a0, a1] => match asLLL a0, asLLL a1 with
    | some (pa, pc, pr), some (pa', pc', pr') => some (pa' = pa ∧ pc' = pc ∧ pr' = pr, .lit (.bool (true)), [])
    | _, _ => none
  | _ => none
set_option linter.unusedVariables false in
theorem ok_eqProof : (mk c_eqProof).ok Try.prog 25 := Con0.okLit (enter_of Try.func25 (by kernel_rfl) (by kernel_rfl)) fun args c x obs h => by
  unfold c_eqProof at h
  split at h
  · split at h
    · rename_i pa pc pr pa' pc' pr' e0 e1
      cases h
      refine ⟨rfl, _, rfl, fun hc w vs hv => ?_⟩
      obtain ⟨u0, vs, rfl, r0, h0⟩ := hv.cons_of
      obtain ⟨u1, vs, rfl, r1, h1⟩ := h0.cons_of
      rw [h1.nil_of]
      obtain ⟨z0_0, z0_1, z0_2, rfl, y0_0, y0_1, y0_2⟩ := asLLL_sound e0 r0
      obtain ⟨A_pa, c_pa, rfl, hx_pa, hl_pa, hc_pa⟩ := y0_0
      obtain ⟨A_pc, c_pc, rfl, hx_pc, hl_pc, hc_pc⟩ := y0_1
      obtain ⟨A_pr, c_pr, rfl, hx_pr, hl_pr, hc_pr⟩ := y0_2
      obtain ⟨z1_0, z1_1, z1_2, rfl, y1_0, y1_1, y1_2⟩ := asLLL_sound e1 r1
      obtain ⟨A_pa', c_pa', rfl, hx_pa', hl_pa', hc_pa'⟩ := y1_0
      obtain ⟨A_pc', c_pc', rfl, hx_pc', hl_pc', hc_pc'⟩ := y1_1
      obtain ⟨A_pr', c_pr', rfl, hx_pr', hl_pr', hc_pr'⟩ := y1_2
      exact by
        obtain ⟨rfl, rfl, rfl⟩ := hc
        exact eqProof_same A_pa c_pa pa' hl_pa' A_pc c_pc pc' hl_pc' A_pr c_pr pr' hl_pr' A_pa' c_pa' A_pc' c_pc' A_pr' c_pr' _ hx_pa hx_pc hx_pr hx_pa' hx_pc' hx_pr'
    · cases h
  · cases h
noncomputable def c_heldIntS : Con0 := fun args => match args with
  | [a0, a1] => match asIs a0, asI a1 with
    | some xs, some k => some (xs = marks k xs.length ∧ xs.length ≤ 35184372088832 ∧ -1 ≤ k ∧ k ≤ 4611686018427387904, .lit (.int .i64 (k + xs.length)), [])
    | _, _ => none
  | _ => none
set_option linter.unusedVariables false in
theorem ok_heldIntS : (mk c_heldIntS).ok Try.prog 86 := Con0.okLit (enter_of Try.func86 (by kernel_rfl) (by kernel_rfl)) fun args c x obs h => by
  unfold c_heldIntS at h
  split at h
  · split at h
    · rename_i xs k e0 e1
      cases h
      refine ⟨rfl, _, rfl, fun hc w vs hv => ?_⟩
      obtain ⟨u0, vs, rfl, r0, h0⟩ := hv.cons_of
      obtain ⟨u1, vs, rfl, r1, h1⟩ := h0.cons_of
      rw [h1.nil_of]
      obtain ⟨A_xs, c_xs, rfl, hx_xs, hl_xs, hc_xs⟩ := asIs_sound e0 r0
      obtain rfl := asI_sound e1 r1
      exact Calls.keep (heldIntS_any A_xs c_xs xs.length k hc.2.1 hc.2.2.1 hc.2.2.2 _ (Eq.mp (congrArg (RI w w.heap.size A_xs) hc.1) hx_xs))
    · cases h
  · cases h
noncomputable def c_heldProof : Con0 := fun args => match args with
  | [a0, a1] => match asLLL a0, asI a1 with
    | some (pa, pc, pr), some k => some ((pa = marks k pa.length ∧ pc = marks (k + pa.length) pc.length ∧ pr = marks (k + pa.length + pc.length) pr.length) ∧ (pa.length ≤ 35184372088832 ∧ pc.length ≤ 35184372088832 ∧ pr.length ≤ 35184372088832) ∧ 0 ≤ k ∧ k ≤ 1000000, .lit (.int .i64 (k + pa.length + pc.length + pr.length)), [])
    | _, _ => none
  | _ => none
set_option linter.unusedVariables false in
theorem ok_heldProof : (mk c_heldProof).ok Try.prog 33 := Con0.okLit (enter_of Try.func33 (by kernel_rfl) (by kernel_rfl)) fun args c x obs h => by
  unfold c_heldProof at h
  split at h
  · split at h
    · rename_i pa pc pr k e0 e1
      cases h
      refine ⟨rfl, _, rfl, fun hc w vs hv => ?_⟩
      obtain ⟨u0, vs, rfl, r0, h0⟩ := hv.cons_of
      obtain ⟨u1, vs, rfl, r1, h1⟩ := h0.cons_of
      rw [h1.nil_of]
      obtain ⟨z0_0, z0_1, z0_2, rfl, y0_0, y0_1, y0_2⟩ := asLLL_sound e0 r0
      obtain ⟨A_pa, c_pa, rfl, hx_pa, hl_pa, hc_pa⟩ := y0_0
      obtain ⟨A_pc, c_pc, rfl, hx_pc, hl_pc, hc_pc⟩ := y0_1
      obtain ⟨A_pr, c_pr, rfl, hx_pr, hl_pr, hc_pr⟩ := y0_2
      obtain rfl := asI_sound e1 r1
      exact heldProof_any A_pa c_pa pa hc.2.1.1 A_pc c_pc pc hc.2.1.2.1 A_pr c_pr pr hc.2.1.2.2 k hc.2.2.1 hc.2.2.2 _ (Eq.mp (congrArg (RI w w.heap.size A_pa) hc.1.1) hx_pa) (Eq.mp (congrArg (RI w w.heap.size A_pc) hc.1.2.1) hx_pc) (Eq.mp (congrArg (RI w w.heap.size A_pr) hc.1.2.2) hx_pr)
    · cases h
  · cases h
set_option maxHeartbeats 800000 in
theorem markBases_tch (lo : Nat) (bh : Int) (A_bs : Option Addr) (c_bs : Nat) (bs : List Int) (hl_bs : bs.length ≤ 35184372088832) (k0 : Int) (h0 : 0 ≤ k0) (h1 : k0 ≤ 1000000000000) (w : World) (ho : OIs w lo [(.slice A_bs bs.length c_bs, bs)]) (hlo : lo ≤ w.heap.size) :
    Calls Try.prog 30 #[.agg #[.int .i64 bh, .slice A_bs bs.length c_bs], .int .i64 k0] w fun en w' => en = .returned (.int .i64 (k0 + bs.length)) ∧ OIs w' lo [(.slice A_bs bs.length c_bs, marks (k0) bs.length)] ∧ Touch [.slice A_bs bs.length c_bs] w w' := by
  have q_bs : OI w lo (.slice A_bs bs.length c_bs) bs := ho.1 (.slice A_bs bs.length c_bs, bs) (by simp)
  have lt_bs := q_bs.lt
  have HOS := Lib.hid ho
  clear ho
  have p0_bs : OI (w.alloc (.cells #[.int .i64 bh, .slice A_bs bs.length c_bs] 35)) lo (.slice A_bs bs.length c_bs) bs := q_bs.below (below_new w _)
  have hO0 : Touch [.slice A_bs bs.length c_bs] w (w.alloc (.cells #[.int .i64 bh, .slice A_bs bs.length c_bs] 35)) := Touch.of_below (below_new w _)
  go_enter Try.func30, Try.ntmps30
  go_wp2_with fail
  refine (markIntS_any lo A_bs c_bs bs (k0) hl_bs (by omega) (by omega) _ p0_bs).mono ?_
  rintro e1 w1 ⟨rfl, m1_bs, hg1⟩
  have c1_0 : w1.cell? ⟨w.heap.size, 0, none⟩ = some (.int .i64 bh) := hg1.cell (by repeat (first | with_reducible assumption | (with_reducible apply set1b; with_reducible assumption) | (with_reducible refine (sc_other _ ?_).trans ?_; focus (simp; done)) | (refine cell_new' ?_ _ _ _ rfl; focus (simp; done)) | with_reducible refine cell_keep (below_new _ _) ?_)) (fun e => by have := (lt_bs _ e.symm).2; simp at this)
  have c1_1 : w1.cell? ⟨w.heap.size, 1, none⟩ = some (.slice A_bs bs.length c_bs) := hg1.cell (by repeat (first | with_reducible assumption | (with_reducible apply set1b; with_reducible assumption) | (with_reducible refine (sc_other _ ?_).trans ?_; focus (simp; done)) | (refine cell_new' ?_ _ _ _ rfl; focus (simp; done)) | with_reducible refine cell_keep (below_new _ _) ?_)) (fun e => by have := (lt_bs _ e.symm).2; simp at this)
  have sz1 : w.heap.size < w1.heap.size := World.block_lt_of_cell? _ _ c1_0
  have hO1 : Touch [.slice A_bs bs.length c_bs] w w1 := hO0.trans (Touch.of_grown hg1 (by simp))
  go_wp2
  go_ret
  refine ⟨rfl, ⟨?_, ?_⟩, hO1⟩
  · intro r hr
    simp only [List.mem_cons, List.not_mem_nil, or_false] at hr
    rcases hr with rfl
    · exact m1_bs
  · simp
set_option maxHeartbeats 800000 in
theorem markProof_tch (lo : Nat) (A_pa : Option Addr) (c_pa : Nat) (pa : List Int) (hl_pa : pa.length ≤ 35184372088832) (A_pc : Option Addr) (c_pc : Nat) (pc : List Int) (hl_pc : pc.length ≤ 35184372088832) (A_pr : Option Addr) (c_pr : Nat) (pr : List Int) (hl_pr : pr.length ≤ 35184372088832) (k0 : Int) (h0 : 0 ≤ k0) (h1 : k0 ≤ 1000000000000) (w : World) (ho : OIs w lo [(.slice A_pa pa.length c_pa, pa), (.slice A_pc pc.length c_pc, pc), (.slice A_pr pr.length c_pr, pr)]) (hlo : lo ≤ w.heap.size) :
    Calls Try.prog 32 #[.agg #[.slice A_pa pa.length c_pa, .slice A_pc pc.length c_pc, .slice A_pr pr.length c_pr], .int .i64 k0] w fun en w' => en = .returned (.int .i64 (k0 + pa.length + pc.length + pr.length)) ∧ OIs w' lo [(.slice A_pa pa.length c_pa, marks (k0) pa.length), (.slice A_pc pc.length c_pc, marks (k0 + pa.length) pc.length), (.slice A_pr pr.length c_pr, marks (k0 + pa.length + pc.length) pr.length)] ∧ Touch [.slice A_pa pa.length c_pa, .slice A_pc pc.length c_pc, .slice A_pr pr.length c_pr] w w' := by
  have q_pa : OI w lo (.slice A_pa pa.length c_pa) pa := ho.1 (.slice A_pa pa.length c_pa, pa) (by simp)
  have lt_pa := q_pa.lt
  have q_pc : OI w lo (.slice A_pc pc.length c_pc) pc := ho.1 (.slice A_pc pc.length c_pc, pc) (by simp)
  have lt_pc := q_pc.lt
  have q_pr : OI w lo (.slice A_pr pr.length c_pr) pr := ho.1 (.slice A_pr pr.length c_pr, pr) (by simp)
  have lt_pr := q_pr.lt
  have hp := ho.2
  simp only [List.pairwise_cons, List.mem_cons, List.not_mem_nil, or_false, forall_eq_or_imp, forall_eq, false_imp_iff, implies_true, and_true, List.Pairwise.nil] at hp
  obtain ⟨⟨ap_pa_pc, ap_pa_pr⟩, ap_pc_pr⟩ := hp
  have HOS := Lib.hid ho
  clear ho
  have p0_pa : OI (w.alloc (.cells #[.slice A_pa pa.length c_pa, .slice A_pc pc.length c_pc, .slice A_pr pr.length c_pr] 38)) lo (.slice A_pa pa.length c_pa) pa := q_pa.below (below_new w _)
  have p0_pc : OI (w.alloc (.cells #[.slice A_pa pa.length c_pa, .slice A_pc pc.length c_pc, .slice A_pr pr.length c_pr] 38)) lo (.slice A_pc pc.length c_pc) pc := q_pc.below (below_new w _)
  have p0_pr : OI (w.alloc (.cells #[.slice A_pa pa.length c_pa, .slice A_pc pc.length c_pc, .slice A_pr pr.length c_pr] 38)) lo (.slice A_pr pr.length c_pr) pr := q_pr.below (below_new w _)
  have hO0 : Touch [.slice A_pa pa.length c_pa, .slice A_pc pc.length c_pc, .slice A_pr pr.length c_pr] w (w.alloc (.cells #[.slice A_pa pa.length c_pa, .slice A_pc pc.length c_pc, .slice A_pr pr.length c_pr] 38)) := Touch.of_below (below_new w _)
  go_enter Try.func32, Try.ntmps32
  go_wp2_with fail
  refine (markIntS_any lo A_pa c_pa pa (k0) hl_pa (by omega) (by omega) _ p0_pa).mono ?_
  rintro e1 w1 ⟨rfl, m1_pa, hg1⟩
  have c1_0 : w1.cell? ⟨w.heap.size, 0, none⟩ = some (.slice A_pa pa.length c_pa) := hg1.cell (by repeat (first | with_reducible assumption | (with_reducible apply set1b; with_reducible assumption) | (with_reducible refine (sc_other _ ?_).trans ?_; focus (simp; done)) | (refine cell_new' ?_ _ _ _ rfl; focus (simp; done)) | with_reducible refine cell_keep (below_new _ _) ?_)) (fun e => by have := (lt_pa _ e.symm).2; simp at this)
  have c1_1 : w1.cell? ⟨w.heap.size, 1, none⟩ = some (.slice A_pc pc.length c_pc) := hg1.cell (by repeat (first | with_reducible assumption | (with_reducible apply set1b; with_reducible assumption) | (with_reducible refine (sc_other _ ?_).trans ?_; focus (simp; done)) | (refine cell_new' ?_ _ _ _ rfl; focus (simp; done)) | with_reducible refine cell_keep (below_new _ _) ?_)) (fun e => by have := (lt_pa _ e.symm).2; simp at this)
  have c1_2 : w1.cell? ⟨w.heap.size, 2, none⟩ = some (.slice A_pr pr.length c_pr) := hg1.cell (by repeat (first | with_reducible assumption | (with_reducible apply set1b; with_reducible assumption) | (with_reducible refine (sc_other _ ?_).trans ?_; focus (simp; done)) | (refine cell_new' ?_ _ _ _ rfl; focus (simp; done)) | with_reducible refine cell_keep (below_new _ _) ?_)) (fun e => by have := (lt_pa _ e.symm).2; simp at this)
  have sz1 : w.heap.size < w1.heap.size := World.block_lt_of_cell? _ _ c1_0
  have hO1 : Touch [.slice A_pa pa.length c_pa, .slice A_pc pc.length c_pc, .slice A_pr pr.length c_pr] w w1 := hO0.trans (Touch.of_grown hg1 (by simp))
  have p1_pc := p0_pc.kept hg1 ap_pa_pc.symm
  have p1_pr := p0_pr.kept hg1 ap_pa_pr.symm
  go_wp2_with fail
  refine (markIntS_any lo A_pc c_pc pc (k0 + pa.length) hl_pc (by omega) (by omega) _ p1_pc).mono ?_
  rintro e2 w2 ⟨rfl, m2_pc, hg2⟩
  have c2_0 : w2.cell? ⟨w.heap.size, 0, none⟩ = some (.slice A_pa pa.length c_pa) := hg2.cell (by repeat (first | with_reducible assumption | (with_reducible apply set1b; with_reducible assumption) | (with_reducible refine (sc_other _ ?_).trans ?_; focus (simp; done)) | (refine cell_new' ?_ _ _ _ rfl; focus (simp; done)) | with_reducible refine cell_keep (below_new _ _) ?_)) (fun e => by have := (lt_pc _ e.symm).2; simp at this)
  have c2_1 : w2.cell? ⟨w.heap.size, 1, none⟩ = some (.slice A_pc pc.length c_pc) := hg2.cell (by repeat (first | with_reducible assumption | (with_reducible apply set1b; with_reducible assumption) | (with_reducible refine (sc_other _ ?_).trans ?_; focus (simp; done)) | (refine cell_new' ?_ _ _ _ rfl; focus (simp; done)) | with_reducible refine cell_keep (below_new _ _) ?_)) (fun e => by have := (lt_pc _ e.symm).2; simp at this)
  have c2_2 : w2.cell? ⟨w.heap.size, 2, none⟩ = some (.slice A_pr pr.length c_pr) := hg2.cell (by repeat (first | with_reducible assumption | (with_reducible apply set1b; with_reducible assumption) | (with_reducible refine (sc_other _ ?_).trans ?_; focus (simp; done)) | (refine cell_new' ?_ _ _ _ rfl; focus (simp; done)) | with_reducible refine cell_keep (below_new _ _) ?_)) (fun e => by have := (lt_pc _ e.symm).2; simp at this)
  have sz2 : w.heap.size < w2.heap.size := World.block_lt_of_cell? _ _ c2_0
  have hO2 : Touch [.slice A_pa pa.length c_pa, .slice A_pc pc.length c_pc, .slice A_pr pr.length c_pr] w w2 := hO1.trans (Touch.of_grown hg2 (by simp))
  have p2_pr := p1_pr.kept hg2 ap_pc_pr.symm
  have m2_pa := m1_pa.kept hg2 ap_pa_pc
  clear c1_0 c1_1 c1_2
  go_wp2_with fail
  refine (markIntS_any lo A_pr c_pr pr (k0 + pa.length + pc.length) hl_pr (by omega) (by omega) _ p2_pr).mono ?_
  rintro e3 w3 ⟨rfl, m3_pr, hg3⟩
  have c3_0 : w3.cell? ⟨w.heap.size, 0, none⟩ = some (.slice A_pa pa.length c_pa) := hg3.cell (by repeat (first | with_reducible assumption | (with_reducible apply set1b; with_reducible assumption) | (with_reducible refine (sc_other _ ?_).trans ?_; focus (simp; done)) | (refine cell_new' ?_ _ _ _ rfl; focus (simp; done)) | with_reducible refine cell_keep (below_new _ _) ?_)) (fun e => by have := (lt_pr _ e.symm).2; simp at this)
  have c3_1 : w3.cell? ⟨w.heap.size, 1, none⟩ = some (.slice A_pc pc.length c_pc) := hg3.cell (by repeat (first | with_reducible assumption | (with_reducible apply set1b; with_reducible assumption) | (with_reducible refine (sc_other _ ?_).trans ?_; focus (simp; done)) | (refine cell_new' ?_ _ _ _ rfl; focus (simp; done)) | with_reducible refine cell_keep (below_new _ _) ?_)) (fun e => by have := (lt_pr _ e.symm).2; simp at this)
  have c3_2 : w3.cell? ⟨w.heap.size, 2, none⟩ = some (.slice A_pr pr.length c_pr) := hg3.cell (by repeat (first | with_reducible assumption | (with_reducible apply set1b; with_reducible assumption) | (with_reducible refine (sc_other _ ?_).trans ?_; focus (simp; done)) | (refine cell_new' ?_ _ _ _ rfl; focus (simp; done)) | with_reducible refine cell_keep (below_new _ _) ?_)) (fun e => by have := (lt_pr _ e.symm).2; simp at this)
  have sz3 : w.heap.size < w3.heap.size := World.block_lt_of_cell? _ _ c3_0
  have hO3 : Touch [.slice A_pa pa.length c_pa, .slice A_pc pc.length c_pc, .slice A_pr pr.length c_pr] w w3 := hO2.trans (Touch.of_grown hg3 (by simp))
  have m3_pa := m2_pa.kept hg3 ap_pa_pr
  have m3_pc := m2_pc.kept hg3 ap_pc_pr
  clear c2_0 c2_1 c2_2
  go_wp2
  go_ret
  refine ⟨rfl, ⟨?_, ?_⟩, hO3⟩
  · intro r hr
    simp only [List.mem_cons, List.not_mem_nil, or_false] at hr
    rcases hr with rfl | rfl | rfl
    · exact m3_pa
    · exact m3_pc
    · exact m3_pr
  · simp only [List.pairwise_cons, List.mem_cons, List.not_mem_nil, or_false, forall_eq_or_imp, forall_eq, false_imp_iff, implies_true, and_true, List.Pairwise.nil]
    exact ⟨⟨ap_pa_pc, ap_pa_pr⟩, ap_pc_pr⟩
def sel_markIntS : List AV → Option (List (Nat × Nat) × Int)
  | [.own o0 n0, .lit (.int .i64 k)] => some ([(o0, n0)], k)
  | _ => none
def c_markIntS : Con := Con.mark sel_markIntS
theorem ok_markIntS : c_markIntS.ok Try.prog 31 := Con.mark_ok (enter_of Try.func31 (by kernel_rfl) (by kernel_rfl)) fun args ids k hs D vs hv => by
  unfold sel_markIntS at hs
  split at hs
  · cases hs
    obtain ⟨u0, vs, rfl, r0, h0⟩ := hv.cons_of
    obtain ⟨u1, vs, rfl, r1, h1⟩ := h0.cons_of
    rw [h1.nil_of]
    obtain rfl := r1.lit_eq
    refine ⟨[u0], .cons r0 .nil, fun lo w xss hoi hl hlo hk0 hk1 hlen => ?_⟩
    rcases xss with _ | ⟨xs, _ | ⟨_, _⟩⟩
    · simp at hl
    rotate_left
    · simp at hl
    have oi0 : OI w lo u0 xs := hoi.1 (u0, xs) (by simp)
    obtain ⟨A0, c0, rfl, _, _⟩ := own_hs oi0
    exact (markIntS_any lo A0 c0 xs k (hlen xs (by simp)) (by omega) (by omega) w (hoi.1 (.slice A0 xs.length c0, xs) (by simp))).mono fun en w' ⟨h1, h2, h3⟩ => ⟨h1, OIs.mk1 h2, Touch.of_grown h3 (by simp)⟩
  · cases hs
def sel_markBases : List AV → Option (List (Nat × Nat) × Int)
  | [.agg [.lit (.int .i64 bh), .own o0 n0], .lit (.int .i64 k)] => some ([(o0, n0)], k)
  | _ => none
def c_markBases : Con := Con.mark sel_markBases
theorem ok_markBases : c_markBases.ok Try.prog 30 := Con.mark_ok (enter_of Try.func30 (by kernel_rfl) (by kernel_rfl)) fun args ids k hs D vs hv => by
  unfold sel_markBases at hs
  split at hs
  · cases hs
    obtain ⟨u0, vs, rfl, r0, h0⟩ := hv.cons_of
    obtain ⟨u1, vs, rfl, r1, h1⟩ := h0.cons_of
    rw [h1.nil_of]
    obtain rfl := r1.lit_eq
    obtain ⟨us, rfl, g0⟩ := r0.agg_of
    obtain ⟨y0, us, rfl, q0, g1⟩ := g0.cons_of
    obtain rfl := q0.lit_eq
    obtain ⟨y1, us, rfl, q1, g2⟩ := g1.cons_of
    rw [g2.nil_of]
    refine ⟨[y1], .cons q1 (.nil), fun lo w xss hoi hl hlo hk0 hk1 hlen => ?_⟩
    rcases xss with _ | ⟨bs, _ | ⟨_, _⟩⟩
    · simp at hl
    rotate_left
    · simp at hl
    have oi0 : OI w lo y1 bs := hoi.1 (y1, bs) (by simp)
    obtain ⟨A0, c0, rfl, _, _⟩ := own_hs oi0
    exact markBases_tch lo _ A0 c0 bs (hlen _ (by simp)) k hk0 hk1 w hoi hlo
  · cases hs
def sel_markProof : List AV → Option (List (Nat × Nat) × Int)
  | [.agg [.own o0 n0, .own o1 n1, .own o2 n2], .lit (.int .i64 k)] => some ([(o0, n0), (o1, n1), (o2, n2)], k)
  | _ => none
def c_markProof : Con := Con.mark sel_markProof
theorem ok_markProof : c_markProof.ok Try.prog 32 := Con.mark_ok (enter_of Try.func32 (by kernel_rfl) (by kernel_rfl)) fun args ids k hs D vs hv => by
  unfold sel_markProof at hs
  split at hs
  · cases hs
    obtain ⟨u0, vs, rfl, r0, h0⟩ := hv.cons_of
    obtain ⟨u1, vs, rfl, r1, h1⟩ := h0.cons_of
    rw [h1.nil_of]
    obtain rfl := r1.lit_eq
    obtain ⟨us, rfl, g0⟩ := r0.agg_of
    obtain ⟨y0, us, rfl, q0, g1⟩ := g0.cons_of
    obtain ⟨y1, us, rfl, q1, g2⟩ := g1.cons_of
    obtain ⟨y2, us, rfl, q2, g3⟩ := g2.cons_of
    rw [g3.nil_of]
    refine ⟨[y0, y1, y2], .cons q0 (.cons q1 (.cons q2 (.nil))), fun lo w xss hoi hl hlo hk0 hk1 hlen => ?_⟩
    rcases xss with _ | ⟨pa, _ | ⟨pc, _ | ⟨pr, _ | ⟨_, _⟩⟩⟩⟩
    · simp at hl
    · simp at hl
    · simp at hl
    rotate_left
    · simp at hl
    have oi0 : OI w lo y0 pa := hoi.1 (y0, pa) (by simp)
    obtain ⟨A0, c0, rfl, _, _⟩ := own_hs oi0
    have oi1 : OI w lo y1 pc := hoi.1 (y1, pc) (by simp)
    obtain ⟨A1, c1, rfl, _, _⟩ := own_hs oi1
    have oi2 : OI w lo y2 pr := hoi.1 (y2, pr) (by simp)
    obtain ⟨A2, c2, rfl, _, _⟩ := own_hs oi2
    exact markProof_tch lo A0 c0 pa (hlen _ (by simp)) A1 c1 pc (hlen _ (by simp)) A2 c2 pr (hlen _ (by simp)) k hk0 hk1 w hoi hlo
  · cases hs
end Go.Proofs.Ytljlimlgdnbllaa
