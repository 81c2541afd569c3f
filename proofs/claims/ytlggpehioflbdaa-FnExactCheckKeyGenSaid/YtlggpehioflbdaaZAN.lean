import Derived.Test.YtlggpehioflbdaaZAM
/- Abstract walks: a contract that is one of two, by its arguments. -/
set_option linter.all false
set_option linter.unusedVariables false
set_option linter.unusedSimpArgs false
namespace Go.Proofs.Ytlggpehioflbdaa
open Go.RowKit
theorem Con0.either {P : Program} {f : FuncId} {C C1 C2 : Con0} (h1 : (mk C1).ok P f) (h2 : (mk C2).ok P f) (h : ∀ args, C args = C1 args ∨ C args = C2 args) : (mk C).ok P f where
  enter := h1.enter
  calls := by
    intro w0 get obj a W ρ β hR nid args c x eff tch hrun hc vs hvs
    have key : (mk C).run nid obj args = (mk C1).run nid obj args ∨ (mk C).run nid obj args = (mk C2).run nid obj args := by
      show DCon.runC _ _ _ _ = DCon.runC _ _ _ _ ∨ DCon.runC _ _ _ _ = DCon.runC _ _ _ _
      unfold DCon.runC
      cases deeps3 obj args with
      | none => exact .inl rfl
      | some r =>
        obtain ⟨c1, dargs, tc⟩ := r
        dsimp only [mkD]
        rcases h dargs with e | e
        · rw [e]; exact .inl rfl
        · rw [e]; exact .inr rfl
    rcases key with e | e
    · exact h1.calls w0 get obj a W ρ β hR nid args c x eff tch (e ▸ hrun) hc vs hvs
    · exact h2.calls w0 get obj a W ρ β hR nid args c x eff tch (e ▸ hrun) hc vs hvs
section
variable {w0 : World} {get : Nat → Option AV} {obj : Nat → AO} {a : Act} {W : World} {ρ : Nat → Value} {β : Nat → List Nat} {N : Nat}
/-- a box whose cells are forgotten -/
theorem RelW.celBox (h : RelW w0 get obj a W ρ β) {o : Nat} {e : TypeId} {cs : List AV} (hob : obj o = .box e cs) (hc : cs.all AV.isCell = true) : RelW w0 get (setO obj o (.box e (cs.map fun _ => .cel))) a W ρ β := by
  have hobj := h.objs o
  rw [hob] at hobj
  have hl : ∀ k, (setO obj o (.box e (cs.map fun _ => .cel)) k).len = (obj k).len := by
    intro k
    by_cases e1 : k = o
    · subst e1; rw [setO_same, hob]; rfl
    · rw [setO_other e1]
  refine (h.relabel (obj' := setO obj o (.box e (cs.map fun _ => .cel))) (ρ' := ρ) (β' := β) (fun k m hk => ⟨by rw [hl]; exact hk, rfl⟩) (fun k b hk hb => ⟨k, by rw [← hl]; exact hk, hb⟩) (fun hr k => ?_) (fun k k' b hk hk' => h.apart k k' b (by rw [← hl]; exact hk) (by rw [← hl]; exact hk')) (fun k hk => h.nodup k (by rw [← hl]; exact hk))).2
  by_cases e1 : k = o
  · subst e1
    rw [setO_same]
    obtain ⟨b, us, p1, p2, p3, p4⟩ := hobj
    refine ⟨b, us, p1, by rw [List.length_map]; exact p2, ?_, p4⟩
    exact (p3.cels hc).mono fun c u _ hcu => hr c u hcu
  · rw [setO_other e1]; exact AO.own_other (C := cxOf obj W ρ β) rfl (fun c u => hr c u) (h.objs k)
theorem Sub.celBox {σ : AS} (k : Nat) {e : TypeId} {cs : List AV} (hk : σ.obj k = .box e cs) (hc : cs.all AV.isCell = true) : Sub w0 N σ ⟨σ.sl, (k, .box e (cs.map fun _ => .cel)) :: σ.hp, σ.nx, σ.fr⟩ := by
  rintro a W ⟨hN, ρ, β, h⟩
  refine ⟨hN, ρ, β, ?_⟩
  rw [AS.obj_cons]
  exact h.celBox hk hc
/-- code by its first region -/
theorem AWp.codeAt {P : Program} {c : Code} {σ : AS} {AQ : Exit → AS → Prop} (n : Nat) (_ : firstR c = n) (h : AWp P w0 N c σ AQ) : AWp P w0 N c σ AQ := h
end
end Go.Proofs.Ytlggpehioflbdaa
