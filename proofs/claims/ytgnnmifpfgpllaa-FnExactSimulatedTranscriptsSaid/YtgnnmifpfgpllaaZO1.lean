import Derived.Test.YtgnnmifpfgpllaaZE9
import Derived.Test.YtgnnmifpfgpllaaZN1
import Derived.Test.YtgnnmifpfgpllaaZKit
import Derived.Deep.QuietTactic
import Derived.BigQuiet
import Derived.Test.YtgnnmifpfgpllaaZRel
/- Walks: proofs of openings. -/
set_option linter.all false
set_option linter.unusedVariables false
set_option linter.unusedSimpArgs false
namespace Go.Proofs.Ytgnnmifpfgpllaa
open Go.RowKit
theorem RI.ad {w : World} {B : Nat} {A : Option Addr} {xs : List Int} (h : RI w B A xs) : ∃ ad : Addr, 0 < xs.length → A = some ad := by
  rcases Nat.eq_zero_or_pos xs.length with h0 | h0
  · exact ⟨default, fun h => by omega⟩
  · obtain ⟨ad, e, _⟩ := h.2 h0
    exact ⟨ad, fun _ => e⟩
theorem RI.get {w : World} {B : Nat} {ad : Addr} {xs : List Int} (h : RI w B (some ad) xs) (k : Nat) (hk : k < xs.length) : w.cell? (ad.add k) = some (.int .i64 (xs.getD k 0)) := by
  obtain ⟨ad', e, _, hc⟩ := h.at_ hk
  cases e
  rw [hc, List.getD_eq_getElem?_getD, List.getElem?_eq_getElem hk]; rfl
end Go.Proofs.Ytgnnmifpfgpllaa
