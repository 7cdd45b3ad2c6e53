/- The engine and the words that all chapters share: several texts in one. -/
import Derived.Test.YtfogkbmbmaganaaGreatTreZ
import Derived.Test.YtfogkbmbmaganaaGreatQX24

/- The engine by trees, in plain terms: it leads the walks that the plain search finds. -/
set_option linter.unusedVariables false
set_option linter.unusedSimpArgs false
namespace Go.Proofs.YtfogkbmbmaganaaGreat
open Go.RowKit
section
variable {N : Net} {L : Nat → List Nat} {lv : Nat → Int} {least : Int} {tr : List Int}
def Free (L : Nat → List Nat) (N : Net) (least : Int) (tr : List Int) (V : List Nat) : Prop := ∀ r ∈ V, r ∈ L (frN N r) ∧ least ≤ tr.getD r 0
theorem PI.free {pos W : List Nat} (h : PI N L least tr pos W) : Free L N least tr W := fun r hr => ⟨h.mem r hr, by obtain ⟨_, _, _, h⟩ := h.head r hr; exact h⟩
theorem PI.stuck (hR : N.Right) (hG : Graded N L lv) {pos W : List Nat} (h : PI N L least tr pos W) : ∀ {V : List Nat} {u z : Nat}, Tr N u V z → Free L N least tr V → Dead L pos u → u ≠ N.snk.toNat → z ≠ N.snk.toNat
  | [], u, z, hT, _, _, hu => by rw [← (show u = z from hT)]; exact hu
  | r :: V, u, z, ⟨h1, h2⟩, hF, hd, hu => by
    obtain ⟨hr, hl⟩ := hF r (by simp)
    obtain ⟨j, hj, hjr⟩ := List.mem_iff_getElem.1 hr
    have hlt := (hG.ok _ _ hr).1
    have hf := frN_eq hR hlt
    have hlen : frN N r < pos.length := by rw [h.pl]; omega
    obtain ⟨p, hp⟩ : ∃ p, pos[frN N r]? = some p := ⟨pos[frN N r], List.getElem?_eq_getElem hlen⟩
    have h3 := hd p (by rw [← h1]; exact hp)
    rw [h1] at hj
    rcases h.pass _ p hp j r (by omega) (by rw [List.getElem?_eq_getElem (by rw [h1]; exact hj), hjr]) with k | k
    · omega
    · exact PI.stuck hR hG h h2 (fun s hs => hF s (by simp [hs])) k.2 k.1
def Heads (L : Nat → List Nat) (N : Net) (pos V : List Nat) : Prop := ∀ r ∈ V, ∃ p, pos[frN N r]? = some p ∧ (L (frN N r))[p]? = some r
theorem PI.heads {pos W : List Nat} (h : PI N L least tr pos W) : Heads L N pos W := fun r hr => by obtain ⟨p, h1, h2, _⟩ := h.head r hr; exact ⟨p, h1, h2⟩
theorem walk_one (hR : N.Right) (hG : Graded N L lv) {pos pos' W W' : List Nat} (h : PI N L least tr pos W) (h' : PI N L least tr pos' W') : ∀ {V V' : List Nat} {u : Nat}, Tr N u V N.snk.toNat → Tr N u V' N.snk.toNat → Free L N least tr V → Free L N least tr V' → Heads L N pos V → Heads L N pos' V' → V = V'
  | [], V', u, hT, hT', _, hF', _, _ => by
    have h1 := (Tr_lv hG hT' fun r hr => (hF' r hr).1).1
    rw [← (show u = N.snk.toNat from hT)] at h1
    exact (List.length_eq_zero_iff.1 (by omega)).symm
  | r :: V, [], u, hT, hT', hF, _, _, _ => by
    have h1 := (Tr_lv hG hT fun r hr => (hF r hr).1).1
    rw [← (show u = N.snk.toNat from hT')] at h1
    simp only [List.length_cons] at h1
    omega
  | r :: V, r' :: V', u, ⟨h1, h2⟩, ⟨k1, k2⟩, hF, hF', hH, hH' => by
    obtain ⟨q, a1, a2⟩ := hH r (by simp)
    obtain ⟨q', b1, b2⟩ := hH' r' (by simp)
    obtain ⟨_, c1⟩ := hF r (by simp)
    obtain ⟨_, c2⟩ := hF' r' (by simp)
    rw [h1] at a1 a2
    rw [k1] at b1 b2
    rcases Nat.lt_trichotomy q q' with hlt | heq | hgt
    · rcases h'.pass u q' b1 q r hlt a2 with k | k
      · omega
      · exact absurd rfl (h'.stuck hR hG h2 (fun s hs => hF s (by simp [hs])) k.2 k.1)
    · subst heq
      rw [a2] at b2
      simp only [Option.some.injEq] at b2
      subst b2
      rw [walk_one hR hG h h' h2 k2 (fun s hs => hF s (by simp [hs])) (fun s hs => hF' s (by simp [hs])) (fun s hs => hH s (by simp [hs])) (fun s hs => hH' s (by simp [hs]))]
    · rcases h.pass u q a1 q' r' hgt b2 with k | k
      · omega
      · exact absurd rfl (h.stuck hR hG k2 (fun s hs => hF' s (by simp [hs])) k.2 k.1)
theorem PI.one (hR : N.Right) (hG : Graded N L lv) {pos pos' W W' : List Nat} (h : PI N L least tr pos W) (h' : PI N L least tr pos' W') (he : endN N W = N.snk.toNat) (he' : endN N W' = N.snk.toNat) : W = W' := by
  have h1 := h.on
  have h2 := h'.on
  rw [he] at h1
  rw [he'] at h2
  exact walk_one hR hG h h' h1 h2 h.free h'.free h.heads h'.heads
theorem nx_total (hR : N.Right) (hG : Graded N L lv) : ∀ (k : Nat) {pos W : List Nat}, PI N L least tr pos W → (N.nodes.toNat + 2) * remL L N.nodes.toNat pos + (N.nodes.toNat + 1 - W.length) ≤ k → ∃ b pos' W', Nx N L least tr pos W b pos' W' := by
  intro k
  have hnn := hR.nodes
  have hsr := hR.src
  have hsk := hR.snk
  have hdf := hR.diff
  have hend : ∀ {pos W : List Nat}, PI N L least tr pos W → endN N W ≤ N.nodes.toNat ∧ W.length ≤ N.nodes.toNat := by
    intro pos W h
    have h1 := (Tr_lv hG h.on h.mem).1
    have h2 := hG.hi (endN N W)
    have h3 := hG.hi N.src.toNat
    refine ⟨?_, by omega⟩
    rcases List.eq_nil_or_concat W with rfl | ⟨W0, r, rfl⟩
    · show N.src.toNat ≤ _; omega
    · rw [List.concat_eq_append, endN_app]
      have := (toN_eq hR ((hG.ok _ _ (h.mem r (by simp))).1)).2.2
      omega
  induction k with
  | zero =>
    intro pos W h hk
    have := hend h
    omega
  | succ k ih =>
    intro pos W h hk
    have hb := hend h
    by_cases hs : endN N W = N.snk.toNat
    · exact ⟨_, _, _, .hit hs⟩
    · have hlen : endN N W < pos.length := by rw [h.pl]; omega
      obtain ⟨p, hp⟩ : ∃ p, pos[endN N W]? = some p := ⟨pos[endN N W], List.getElem?_eq_getElem hlen⟩
      by_cases hlt : p < (L (endN N W)).length
      · obtain ⟨r, hr⟩ : ∃ r, (L (endN N W))[p]? = some r := ⟨(L (endN N W))[p], List.getElem?_eq_getElem hlt⟩
        by_cases hl : least ≤ tr.getD r 0
        · have hg := h.go hG hp hr hl
          have hb2 := hend hg
          rw [List.length_append, List.length_singleton] at hb2
          obtain ⟨b, pos', W', hN⟩ := ih hg (by rw [List.length_append, List.length_singleton]; omega)
          exact ⟨b, pos', W', .go hs hp hr hl hN⟩
        · have hg := h.skip hG hp hr (by omega)
          have hrem := remL_bump (L := L) hp hb.1 hlt
          have : (N.nodes.toNat + 2) * remL L N.nodes.toNat pos = (N.nodes.toNat + 2) * remL L N.nodes.toNat (pos.set (endN N W) (p + 1)) + (N.nodes.toNat + 2) := by rw [← hrem, Nat.mul_add, Nat.mul_one]
          obtain ⟨b, pos', W', hN⟩ := ih hg (by omega)
          exact ⟨b, pos', W', .skip hs hp hr (by omega) hN⟩
      · rcases List.eq_nil_or_concat W with rfl | ⟨W0, r, rfl⟩
        · exact ⟨_, _, _, .stop hs hp (Nat.le_of_not_lt hlt)⟩
        · rw [List.concat_eq_append] at *
          obtain ⟨q, hq, hqr, _⟩ := h.back_at
          have hg := h.back hG hs hp (by omega) hq
          have hb0 := hend h.drop
          have hrem := remL_bump (L := L) hq hb0.1 (List.getElem?_eq_some_iff.1 hqr).1
          have : (N.nodes.toNat + 2) * remL L N.nodes.toNat pos = (N.nodes.toNat + 2) * remL L N.nodes.toNat (pos.set (endN N W0) (q + 1)) + (N.nodes.toNat + 2) := by rw [← hrem, Nat.mul_add, Nat.mul_one]
          rw [List.length_append, List.length_singleton] at hk hb
          obtain ⟨b, pos', W', hN⟩ := ih hg (by omega)
          exact ⟨b, pos', W', .back hs hp (by omega) hq hN⟩
theorem TR.bl (hR : N.Right) (hG : Graded N L lv) (hle : 1 ≤ least) {ws : List (List Nat × Int)} {tr' : List Int} (h : TR N L least tr ws tr') : ∀ {f : List Int} {pos W : List Nat}, IsFlow N f → tr = roomL (N.arcs.zip f) → PI N L least tr pos W → Bl N L least tr pos W ws tr' := by
  have hsr := hR.src
  have hsk := hR.snk
  have hdf := hR.diff
  induction h with
  | @stop tr pos0 hP hd =>
    intro f pos W hf he hI
    obtain ⟨b, pos', W', hN⟩ := nx_total hR hG _ hI (Nat.le_refl _)
    obtain ⟨k1, k2, k3⟩ := hN.keeps hG hI
    cases b with
    | false => exact .stop hN
    | true =>
      have h1 := k1.on
      rw [k2 rfl] at h1
      exact absurd rfl (hP.stuck hR hG h1 k1.free hd (by omega))
  | @walk tr tr' pos0 W0 ws hP hend _ ih =>
    intro f pos W hf he hI
    obtain ⟨b, pos', W', hN⟩ := nx_total hR hG _ hI (Nat.le_refl _)
    obtain ⟨k1, k2, k3⟩ := hN.keeps hG hI
    cases b with
    | false =>
      obtain ⟨rfl, hd⟩ := k3 rfl
      have h1 := hP.on
      rw [hend] at h1
      exact absurd rfl (k1.stuck hR hG h1 hP.free hd (by omega))
    | true =>
      obtain rfl : W0 = W' := hP.one hR hG k1 hend (k2 rfl)
      obtain ⟨_, _, _, _, _, _, ⟨f', hf', hf'e⟩, hPI', _⟩ := push_keeps hR hG hle hf he k1 hend
      exact .walk hN (ih hf' hf'e hPI')
end
end Go.Proofs.YtfogkbmbmaganaaGreat


/- Phases, in plain terms. -/
set_option linter.unusedVariables false
set_option linter.unusedSimpArgs false
namespace Go.Proofs.YtfogkbmbmaganaaGreat
open Go.RowKit
def BlkOf (N : Net) (least : Int) (f : List Int) (ws : List (List Nat × Int)) (f' : List Int) : Prop :=
  ∃ lv, IsLev N (roomL (N.arcs.zip f)) least lv ∧ IsFlow N f' ∧
    Bl N (ldAt N (leadsL N (roomL (N.arcs.zip f)) least lv (2 * N.arcs.length))) least (roomL (N.arcs.zip f)) (List.replicate (N.nodes.toNat + 1) 0) [] ws (roomL (N.arcs.zip f'))
theorem ex_bound : ∀ (ps : List (Arc × Int)) (v : Int), (∀ p ∈ ps, 0 ≤ p.2 ∧ p.2 ≤ p.1.cap) → -((ps.map (·.1.cap)).sum) ≤ exZ ps v ∧ exZ ps v ≤ (ps.map (·.1.cap)).sum
  | [], _, _ => by simp [exZ]
  | p :: ps, v, h => by
    have ih := ex_bound ps v fun q hq => h q (by simp [hq])
    have hp := h p (by simp)
    simp only [exZ] at ih
    simp only [exZ, List.map_cons, List.sum_cons]
    split <;> split <;> omega
theorem zip_caps {l : List Arc} {f : List Int} (h : f.length = l.length) : (l.zip f).map (·.1.cap) = l.map (·.cap) := by
  have hzm : (l.zip f).map (·.1) = l := List.map_fst_zip (by omega)
  have e : (l.zip f).map (·.1.cap) = ((l.zip f).map (·.1)).map (·.cap) := by rw [List.map_map]; rfl
  rw [e, hzm]
theorem value_bound {N : Net} (hR : N.Right) {f : List Int} (hf : Ranged N f) (v : Int) : -4611686018427387903 ≤ exZ (N.arcs.zip f) v ∧ exZ (N.arcs.zip f) v ≤ 4611686018427387903 := by
  have h := ex_bound (N.arcs.zip f) v hf.all
  rw [zip_caps hf.len] at h
  have := hR.sum
  omega
theorem lev_le {N : Net} {rm : List Int} {least : Int} {lv lv' : List Int} (h : IsLev N rm least lv) (h' : IsLev N rm least lv') : ∀ (k v : Nat), lvZ lv v = k → 0 ≤ lvZ lv' v ∧ lvZ lv' v ≤ k
  | 0, v, hv => by rw [h.zero v (by simpa using hv), h'.src]; simp
  | k + 1, v, hv => by
    obtain ⟨r, h1, h2, h3, h4⟩ := h.back v (by omega)
    have ih := lev_le h h' k (frN N r) (by omega)
    have := h'.step r h1 h2 ih.1
    rw [h3] at this
    omega
theorem lev_uniq {N : Net} {rm : List Int} {least : Int} {lv lv' : List Int} (h : IsLev N rm least lv) (h' : IsLev N rm least lv') (v : Nat) : lvZ lv v = lvZ lv' v := by
  have r1 := h.rng v
  have r2 := h'.rng v
  by_cases e : 0 ≤ lvZ lv v
  · have k1 := lev_le h h' (lvZ lv v).toNat v (by omega)
    have k2 := lev_le h' h (lvZ lv' v).toNat v (by omega)
    omega
  · by_cases e2 : 0 ≤ lvZ lv' v
    · have k2 := lev_le h' h (lvZ lv' v).toNat v (by omega)
      omega
    · omega
theorem lev_eq {N : Net} {rm : List Int} {least : Int} {lv lv' : List Int} (h : IsLev N rm least lv) (h' : IsLev N rm least lv') : lv = lv' := by
  refine List.ext_getElem (by rw [h.len, h'.len]) fun i h1 h2 => ?_
  have e1 := lvZ_get (List.getElem?_eq_getElem h1)
  have e2 := lvZ_get (List.getElem?_eq_getElem h2)
  rw [← e1, ← e2]; exact lev_uniq h h' i
theorem Bl_nil {N : Net} {L : Nat → List Nat} {least : Int} {rm rm' : List Int} {pos W : List Nat} (h : Bl N L least rm pos W [] rm') : rm' = rm := by
  cases h; rfl
theorem room_inj {N : Net} {f g : List Int} (hf : f.length = N.arcs.length) (hg : g.length = N.arcs.length) (h : roomL (N.arcs.zip f) = roomL (N.arcs.zip g)) : f = g := by
  refine List.ext_getElem (by omega) fun i hi hi2 => ?_
  have har : N.arcs[i]? = some (N.arcs[i]'(by omega)) := List.getElem?_eq_getElem _
  have g1 := (roomL_get (zip_some har (List.getElem?_eq_getElem hi))).2
  have g2 := (roomL_get (zip_some har (List.getElem?_eq_getElem hi2))).2
  rw [h] at g1
  rw [g1] at g2
  simpa using g2
theorem BlkOf.keeps {N : Net} (hR : N.Right) {least : Int} (hle : 1 ≤ least) {f f' : List Int} {ws : List (List Nat × Int)} (hf : IsFlow N f) (h : BlkOf N least f ws f') {lv : List Int} (hlv : IsLev N (roomL (N.arcs.zip f)) least lv) :
    IsFlow N f' ∧ exZ (N.arcs.zip f) N.snk + least * ws.length ≤ exZ (N.arcs.zip f') N.snk ∧ (0 ≤ lvZ lv N.snk.toNat → ws ≠ []) := by
  obtain ⟨lv', hlv', hf', hb⟩ := h
  obtain ⟨f2, h1, h2, h3, h4, _⟩ := hb.keeps hR (graded_leads hlv') hle f hf rfl PI.start
  have hz : f' = f2 := room_inj hf'.len h1.len h2
  subst hz
  refine ⟨hf', h3, fun hd hw => ?_⟩
  subst hw
  have hrm := Bl_nil hb
  rw [hrm] at h4
  rw [lev_uniq hlv hlv'] at hd
  exact h4 _ (lev_LP hlv' (lvZ lv' N.snk.toNat).toNat _ (by omega)) rfl
inductive Dn (N : Net) (least : Int) : List Int → Nat → Nat → List Int → Prop
  | stop {f lv : List Int} : IsLev N (roomL (N.arcs.zip f)) least lv → lvZ lv N.snk.toNat < 0 → Dn N least f 0 0 f
  | step {f f1 f' lv : List Int} {ws : List (List Nat × Int)} {p k : Nat} : IsLev N (roomL (N.arcs.zip f)) least lv → 0 ≤ lvZ lv N.snk.toNat → BlkOf N least f ws f1 → Dn N least f1 p k f' → Dn N least f (p + 1) (ws.length + k) f'
theorem Dn.keeps {N : Net} (hR : N.Right) {least : Int} (hle : 1 ≤ least) {f f' : List Int} {p k : Nat} (h : Dn N least f p k f') : IsFlow N f →
    IsFlow N f' ∧ exZ (N.arcs.zip f) N.snk + least * k ≤ exZ (N.arcs.zip f') N.snk ∧ p ≤ k ∧ ∃ lv, IsLev N (roomL (N.arcs.zip f')) least lv ∧ lvZ lv N.snk.toNat < 0 := by
  induction h with
  | stop h1 h2 => exact fun hf => ⟨hf, by simp, Nat.le_refl _, _, h1, h2⟩
  | @step f f1 f' lv ws p k h1 h2 h3 _ ih =>
    intro hf
    obtain ⟨k1, k2, k3⟩ := h3.keeps hR hle hf h1
    obtain ⟨g1, g2, g3, g4⟩ := ih k1
    have hw := List.length_pos_iff.2 (k3 h2)
    refine ⟨g1, ?_, by omega, g4⟩
    have : least * ((ws.length + k : Nat) : Int) = least * ws.length + least * k := by
      rw [Int.natCast_add, Int.mul_add]
    omega
end Go.Proofs.YtfogkbmbmaganaaGreat
