
/- A graph turned. -/
import Derived.Test.YtdhenmmmkdhonaaCovQ
set_option linter.unusedVariables false
set_option linter.unusedSimpArgs false
namespace Go.Proofs.Ytdhenmmmkdhonaa
def Edg.turn (e : Edg) : Edg := ⟨e.r, e.l⟩
theorem edgs_at {l : List Edg} {A B : Option Addr} (h : edgs l ≠ [] → A = B) (hl : l ≠ []) : A = B := h fun h0 => by
  have h5 : (edgs l).length = 0 := by rw [h0]; rfl
  rw [edgs_length] at h5
  exact hl (List.length_eq_zero_iff.1 (by omega))
theorem ints_at {l : List Int} {A B : Option Addr} (h : ints l ≠ [] → A = B) (hl : l ≠ []) : A = B := h fun h0 => by
  have h5 : (ints l).length = 0 := by rw [h0]; rfl
  rw [ints_length] at h5
  exact hl (List.length_eq_zero_iff.1 h5)
end Go.Proofs.Ytdhenmmmkdhonaa
