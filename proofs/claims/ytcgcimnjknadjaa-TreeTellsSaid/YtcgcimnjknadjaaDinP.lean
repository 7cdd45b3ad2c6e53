
/- Phases, in plain terms. -/
import Derived.Test.YtcgcimnjknadjaaQX8
set_option linter.unusedVariables false
set_option linter.unusedSimpArgs false
namespace Go.Proofs.Ytcgcimnjknadjaa
open Go.RowKit
/-- What blocking does to a flow. -/
def BlkOf (N : Net) (least : Int) (f : List Int) (ws : List (List Nat × Int)) (f' : List Int) : Prop :=
  ∃ lv, IsLev N (roomL (N.arcs.zip f)) least lv ∧ IsFlow N f' ∧
    Bl N (ldAt N (leadsL N (roomL (N.arcs.zip f)) least lv (2 * N.arcs.length))) least (roomL (N.arcs.zip f)) (List.replicate (N.nodes.toNat + 1) 0) [] ws (roomL (N.arcs.zip f'))
theorem ex_bound : ∀ (ps : List (Arc × Int)) (v : Int), (∀ p ∈ ps, 0 ≤ p.2 ∧ p.2 ≤ p.1.cap) → -((ps.map (·.1.cap)).sum) ≤ exZ ps v ∧ exZ ps v ≤ (ps.map (·.1.cap)).sum
  | [], _, _ => by simp [exZ]
  | p :: ps, v, h => by
    have ih := ex_bound ps v fun q hq => h q (by simp [hq])
    have hp := h p (by simp)
    simp only [exZ] at ih
    simp only [exZ, List.map_cons, List.sum_cons]
    split <;> split <;> omega
theorem zip_caps {l : List Arc} {f : List Int} (h : f.length = l.length) : (l.zip f).map (·.1.cap) = l.map (·.cap) := by
  have hzm : (l.zip f).map (·.1) = l := List.map_fst_zip (by omega)
  have e : (l.zip f).map (·.1.cap) = ((l.zip f).map (·.1)).map (·.cap) := by rw [List.map_map]; rfl
  rw [e, hzm]
theorem value_bound {N : Net} (hR : N.Right) {f : List Int} (hf : Ranged N f) (v : Int) : -4611686018427387903 ≤ exZ (N.arcs.zip f) v ∧ exZ (N.arcs.zip f) v ≤ 4611686018427387903 := by
  have h := ex_bound (N.arcs.zip f) v hf.all
  rw [zip_caps hf.len] at h
  have := hR.sum
  omega
theorem lev_le {N : Net} {rm : List Int} {least : Int} {lv lv' : List Int} (h : IsLev N rm least lv) (h' : IsLev N rm least lv') : ∀ (k v : Nat), lvZ lv v = k → 0 ≤ lvZ lv' v ∧ lvZ lv' v ≤ k
  | 0, v, hv => by rw [h.zero v (by simpa using hv), h'.src]; simp
  | k + 1, v, hv => by
    obtain ⟨r, h1, h2, h3, h4⟩ := h.back v (by omega)
    have ih := lev_le h h' k (frN N r) (by omega)
    have := h'.step r h1 h2 ih.1
    rw [h3] at this
    omega
theorem lev_uniq {N : Net} {rm : List Int} {least : Int} {lv lv' : List Int} (h : IsLev N rm least lv) (h' : IsLev N rm least lv') (v : Nat) : lvZ lv v = lvZ lv' v := by
  have r1 := h.rng v
  have r2 := h'.rng v
  by_cases e : 0 ≤ lvZ lv v
  · have k1 := lev_le h h' (lvZ lv v).toNat v (by omega)
    have k2 := lev_le h' h (lvZ lv' v).toNat v (by omega)
    omega
  · by_cases e2 : 0 ≤ lvZ lv' v
    · have k2 := lev_le h' h (lvZ lv' v).toNat v (by omega)
      omega
    · omega
theorem lev_eq {N : Net} {rm : List Int} {least : Int} {lv lv' : List Int} (h : IsLev N rm least lv) (h' : IsLev N rm least lv') : lv = lv' := by
  refine List.ext_getElem (by rw [h.len, h'.len]) fun i h1 h2 => ?_
  have e1 := lvZ_get (List.getElem?_eq_getElem h1)
  have e2 := lvZ_get (List.getElem?_eq_getElem h2)
  rw [← e1, ← e2]; exact lev_uniq h h' i
theorem Bl_nil {N : Net} {L : Nat → List Nat} {least : Int} {rm rm' : List Int} {pos W : List Nat} (h : Bl N L least rm pos W [] rm') : rm' = rm := by
  cases h; rfl
theorem room_inj {N : Net} {f g : List Int} (hf : f.length = N.arcs.length) (hg : g.length = N.arcs.length) (h : roomL (N.arcs.zip f) = roomL (N.arcs.zip g)) : f = g := by
  refine List.ext_getElem (by omega) fun i hi hi2 => ?_
  have har : N.arcs[i]? = some (N.arcs[i]'(by omega)) := List.getElem?_eq_getElem _
  have g1 := (roomL_get (zip_some har (List.getElem?_eq_getElem hi))).2
  have g2 := (roomL_get (zip_some har (List.getElem?_eq_getElem hi2))).2
  rw [h] at g1
  rw [g1] at g2
  simpa using g2
theorem BlkOf.keeps {N : Net} (hR : N.Right) {least : Int} (hle : 1 ≤ least) {f f' : List Int} {ws : List (List Nat × Int)} (hf : IsFlow N f) (h : BlkOf N least f ws f') {lv : List Int} (hlv : IsLev N (roomL (N.arcs.zip f)) least lv) :
    IsFlow N f' ∧ exZ (N.arcs.zip f) N.snk + least * ws.length ≤ exZ (N.arcs.zip f') N.snk ∧ (0 ≤ lvZ lv N.snk.toNat → ws ≠ []) := by
  obtain ⟨lv', hlv', hf', hb⟩ := h
  obtain ⟨f2, h1, h2, h3, h4, _⟩ := hb.keeps hR (graded_leads hlv') hle f hf rfl PI.start
  have hz : f' = f2 := room_inj hf'.len h1.len h2
  subst hz
  refine ⟨hf', h3, fun hd hw => ?_⟩
  subst hw
  have hrm := Bl_nil hb
  rw [hrm] at h4
  rw [lev_uniq hlv hlv'] at hd
  exact h4 _ (lev_LP hlv' (lvZ lv' N.snk.toNat).toNat _ (by omega)) rfl
/-- Phases till no track leads to the sink. -/
inductive Dn (N : Net) (least : Int) : List Int → Nat → Nat → List Int → Prop
  | stop {f lv : List Int} : IsLev N (roomL (N.arcs.zip f)) least lv → lvZ lv N.snk.toNat < 0 → Dn N least f 0 0 f
  | step {f f1 f' lv : List Int} {ws : List (List Nat × Int)} {p k : Nat} : IsLev N (roomL (N.arcs.zip f)) least lv → 0 ≤ lvZ lv N.snk.toNat → BlkOf N least f ws f1 → Dn N least f1 p k f' → Dn N least f (p + 1) (ws.length + k) f'
theorem Dn.keeps {N : Net} (hR : N.Right) {least : Int} (hle : 1 ≤ least) {f f' : List Int} {p k : Nat} (h : Dn N least f p k f') : IsFlow N f →
    IsFlow N f' ∧ exZ (N.arcs.zip f) N.snk + least * k ≤ exZ (N.arcs.zip f') N.snk ∧ p ≤ k ∧ ∃ lv, IsLev N (roomL (N.arcs.zip f')) least lv ∧ lvZ lv N.snk.toNat < 0 := by
  induction h with
  | stop h1 h2 => exact fun hf => ⟨hf, by simp, Nat.le_refl _, _, h1, h2⟩
  | @step f f1 f' lv ws p k h1 h2 h3 _ ih =>
    intro hf
    obtain ⟨k1, k2, k3⟩ := h3.keeps hR hle hf h1
    obtain ⟨g1, g2, g3, g4⟩ := ih k1
    have hw := List.length_pos_iff.2 (k3 h2)
    refine ⟨g1, ?_, by omega, g4⟩
    have : least * ((ws.length + k : Nat) : Int) = least * ws.length + least * k := by
      rw [Int.natCast_add, Int.mul_add]
    omega
/-- A flow that no track leads on: none comes to the sink. -/
theorem no_reach {N : Net} {least : Int} {f lv : List Int} (hf : Ranged N f) (h : IsLev N (roomL (N.arcs.zip f)) least lv) (hs : lvZ lv N.snk.toNat < 0) : ¬ Rch N (roomL (N.arcs.zip f)) least N.snk := fun hr => by
  have := Rch_lev h (by rw [roomL_length, List.length_zip, hf.len, Nat.min_self]) hr
  omega
end Go.Proofs.Ytcgcimnjknadjaa
