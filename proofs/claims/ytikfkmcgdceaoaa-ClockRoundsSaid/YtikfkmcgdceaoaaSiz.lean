/- How long a slice among the arguments may be. -/
import Derived.Test.YtikfkmcgdceaoaaShp
import Derived.SizedLaws
set_option linter.unusedVariables false
namespace Go.Proofs.AL
open Go.RowKit
theorem sized_arg {H : Type} {enc : TypeId × Value → H} {P : Program} {w : World} {t e : TypeId} {v : Value} {d : DataW H} {ps : List MemPlace} {ts : List TypeId} {ds : List (DataW H)} {j B : Nat} (hsz : (DataW.weightsEach P ts ds).all (· ≤ reachBytes) = true) (ht : ts[j]? = some t) (hd : ds[j]? = some d)
    (hu : P.underlying t = some (.slice e)) (hB : P.bytesOf e = B) (h : DataW.Trod enc P w 0 (fun _ => true) true t v d ps) : ∀ a l c, v = .slice a l c → l * B ≤ 140737488351232 := by
  rintro a l c rfl
  subst hB
  obtain ⟨m, hm⟩ := h
  rcases DataW.trod_slice hu hm with ⟨h1, _⟩ | ⟨a', len, cap, elems, rest, n, _, h1, h2, _, _, _, hl, _⟩
  · simp [Value.cells] at h1
    obtain ⟨rfl, rfl, rfl⟩ := h1
    simp
  · simp [Value.cells] at h1
    obtain ⟨rfl, rfl, rfl⟩ := h1
    obtain ⟨h3, _⟩ := Prod.mk.inj h2
    subst h3
    have z := sized_slice hsz ht hd hu
    simp only [List.length_map] at z
    have h4 : l * P.bytesOf e ≤ (elems.length + rest.length) * P.bytesOf e := Nat.mul_le_mul_right _ (by omega)
    exact Nat.le_trans h4 z
end Go.Proofs.AL
