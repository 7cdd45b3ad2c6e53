
/- A graph turned. -/
import Derived.Test.YtbhfbpeldcnpfaaCovQ
namespace Go.Proofs.Ytbhfbpeldcnpfaa
def Edg.turn (e : Edg) : Edg := ⟨e.r, e.l⟩
def tG (g : Gr) : Gr := ⟨g.right, g.left, g.edges.map Edg.turn⟩
theorem tG_right {g : Gr} (h : g.Right) : (tG g).Right := by
  refine ⟨h.right, h.left, by show (g.edges.map Edg.turn).length ≤ 1500; rw [List.length_map]; exact h.len, fun e he => ?_⟩
  obtain ⟨a, ha, rfl⟩ := List.mem_map.1 he
  have := h.edge a ha
  exact ⟨this.2, this.1⟩
theorem tG_tG (g : Gr) : tG (tG g) = g := by
  obtain ⟨l, r, es⟩ := g
  unfold tG
  simp only [List.map_map]
  congr 1
  exact List.map_id'' (fun e => rfl) es
theorem tG_len (g : Gr) : (tG g).edges.length = g.edges.length := by show (g.edges.map _).length = _; rw [List.length_map]
theorem tG_get (g : Gr) (i : Nat) : (tG g).edges[i]? = (g.edges[i]?).map Edg.turn := List.getElem?_map
theorem tG_match' {g : Gr} {l : List Int} (h : IsMatch g l) : IsMatch (tG g) l := by
  refine ⟨h.rise, fun x hx => by rw [tG_len]; exact h.rng x hx, h.apart.imp fun {x y} hxy a b ha hb => ?_⟩
  rw [tG_get] at ha hb
  cases h1 : g.edges[x.toNat]? with
  | none => rw [h1] at ha; cases ha
  | some a' =>
    cases h2 : g.edges[y.toNat]? with
    | none => rw [h2] at hb; cases hb
    | some b' =>
      rw [h1] at ha; rw [h2] at hb
      rw [← Option.some.inj ha, ← Option.some.inj hb]
      exact (hxy a' b' h1 h2).symm
theorem tG_match {g : Gr} {l : List Int} : IsMatch (tG g) l ↔ IsMatch g l := ⟨fun h => by have := tG_match' h; rwa [tG_tG] at this, tG_match'⟩
theorem tG_cover' {g : Gr} {sl sr : List Int} (h : IsCover g sl sr) : IsCover (tG g) sr sl := by
  refine ⟨h.right, h.left, fun e he => ?_⟩
  obtain ⟨a, ha, rfl⟩ := List.mem_map.1 he
  exact (h.meet a ha).symm
theorem tG_cover {g : Gr} {sl sr : List Int} : IsCover (tG g) sr sl ↔ IsCover g sl sr := ⟨fun h => by have := tG_cover' h; rwa [tG_tG] at this, tG_cover'⟩
theorem tG_prove (g : Gr) (l sl sr : List Int) : proveZ (tG g) l sr sl = proveZ g l sl sr := by
  unfold proveZ
  rw [Nat.add_comm]
  have : (IsMatch (tG g) l ∧ IsCover (tG g) sr sl) ↔ (IsMatch g l ∧ IsCover g sl sr) := by rw [tG_match, tG_cover]
  rw [cdec_iff this]
theorem proveZ_ok {g : Gr} {l sl sr : List Int} (hM : IsMatch g l) (hC : IsCover g sl sr) (h : sl.length + sr.length = l.length) : proveZ g l sl sr = 0 := by
  unfold proveZ
  rw [cdec_yes ⟨hM, hC⟩, if_pos rfl, if_pos h]
theorem edgs_at {l : List Edg} {A B : Option Addr} (h : edgs l ≠ [] → A = B) (hl : l ≠ []) : A = B := h fun h0 => by
  have h5 : (edgs l).length = 0 := by rw [h0]; rfl
  rw [edgs_length] at h5
  exact hl (List.length_eq_zero_iff.1 (by omega))
theorem ints_at {l : List Int} {A B : Option Addr} (h : ints l ≠ [] → A = B) (hl : l ≠ []) : A = B := h fun h0 => by
  have h5 : (ints l).length = 0 := by rw [h0]; rfl
  rw [ints_length] at h5
  exact hl (List.length_eq_zero_iff.1 h5)
end Go.Proofs.Ytbhfbpeldcnpfaa
