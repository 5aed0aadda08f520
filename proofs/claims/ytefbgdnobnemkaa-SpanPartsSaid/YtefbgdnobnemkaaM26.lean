/-
  Making a types' table.
-/
import Derived.Test.YtefbgdnobnemkaaM25
namespace Go.Proofs.Ytefbgdnobnemkaa.AM
open Go Go.RowKit

theorem TIok.mk' {P : Program} {t : TypeId} {ti : TI} {i : TypeInfo} {z : Value} {d : TypeDesc} (hi : P.info? t = some i) (h1 : i.size = ti.size) (h2 : i.bytes = ti.bytes) (hz : i.zero = some z) (hsz : z.cells.size = ti.size)
    (hzero : ti.zero = z.cells.toList.map absV) (hone : z.cells.toList.all Value.oneCell' = true) (hpos : 0 < ti.size) (hu : P.underlying t = some d) (hk : TKok P d ti) (hs : ti.k = .str → ti.size = 1) : TIok P t ti := by
  refine ⟨⟨i, z, hi, h1, h2, hz, hsz, by rw [hzero]; simpa using hsz, fun ρ A w j x hx => ?_⟩, ⟨d, hu, hk⟩, hpos, hs, fun j x hx => ?_⟩
  · rw [hzero, List.getElem?_map, Option.map_eq_some_iff] at hx
    obtain ⟨v, hv, rfl⟩ := hx
    have hv' : z.cells[j]? = some v := by rw [← Array.getElem?_toList]; exact hv
    have e : z.cells.getD j undef = v := by simp [hv']
    rw [e]
    exact ⟨absV_R _ _ _ _, List.all_eq_true.1 hone v (List.mem_of_getElem? hv)⟩
  · rw [hzero, List.getElem?_map, Option.map_eq_some_iff] at hx
    obtain ⟨v, hv, rfl⟩ := hx
    exact absV_ments v

end Go.Proofs.Ytefbgdnobnemkaa.AM
