
/- The turns of networks whose capacities are a power of two times greater. -/
import Derived.Test.YtjbcgjahfalkaaaLargeP
set_option linter.unusedVariables false
set_option linter.unusedSimpArgs false
namespace Go.Proofs.Ytjbcgjahfalkaaa
open Go.RowKit
def nrOf (x : Int) : Nat := if x < 1 then 0 else bitLen x.toNat
theorem floor_nr {x : Int} (h0 : 0 ≤ x) (h1 : x ≤ 4611686018427387903) : nrOf x ≤ 62 ∧ floorOf x = halfZ (nrOf x) 0 ∧ (nrOf x = 0 ↔ x = 0) := by
  unfold floorOf nrOf
  by_cases h : x < 1
  · rw [if_pos h, if_pos h]
    exact ⟨by decide, by rw [halfZ_end (Nat.le_refl _)], by simp; omega⟩
  · rw [if_neg h, if_neg h]
    have hp : 0 < x.toNat := by omega
    have h2 := bitLen_pos hp
    have h3 := bitLen_le hp
    refine ⟨?_, ?_, ?_⟩
    · have : bitLen x.toNat - 1 < 62 := (Nat.pow_lt_pow_iff_right (by decide : 1 < 2)).1 (Nat.lt_of_le_of_lt h3 (by omega))
      omega
    · unfold halfZ
      rw [if_pos (by omega), Nat.sub_zero]
    · omega
theorem nrOf_big {x : Int} (h0 : 0 < x) (e : Nat) : nrOf (x * 2 ^ e) = nrOf x + e := by
  have hC : (0 : Int) < 2 ^ e := Int.pow_pos (by decide)
  have hm : 0 < x * 2 ^ e := Int.mul_pos h0 hC
  unfold nrOf
  rw [if_neg (by omega), if_neg (by omega)]
  have hp : 0 < x.toNat := by omega
  have e1 : (x * 2 ^ e).toNat = x.toNat * 2 ^ e := by
    have : x * 2 ^ e = ((x.toNat * 2 ^ e : Nat) : Int) := by
      rw [Int.natCast_mul, Int.natCast_pow, Int.toNat_of_nonneg (by omega)]; rfl
    rw [this, Int.toNat_natCast]
  have b1 := bitLen_le hp
  have b2 := bitLen_lt x.toNat
  have b3 := bitLen_pos hp
  rw [e1]
  obtain ⟨a, ha⟩ : ∃ a, bitLen x.toNat = a + 1 := ⟨bitLen x.toNat - 1, by omega⟩
  rw [ha] at b1 b2 ⊢
  rw [show a + 1 - 1 = a by omega] at b1
  rw [bitLen_uniq (k := a + e)]
  · omega
  · rw [Nat.pow_add]; exact Nat.mul_le_mul_right _ b1
  · rw [show a + e + 1 = (a + 1) + e by omega, Nat.pow_add]
    exact Nat.mul_lt_mul_of_pos_right b2 (Nat.pow_pos (by decide))
section
variable {N : Net}
theorem most_big {C : Int} (hC : 0 < C) : ∀ (l : List Arc) (x : Int), (l.map (bigA C)).foldl (fun m a => if a.cap > m then a.cap else m) (x * C) = l.foldl (fun m a => if a.cap > m then a.cap else m) x * C
  | [], _ => rfl
  | a :: l, x => by
    simp only [List.map_cons, List.foldl_cons]
    have e : (if (bigA C a).cap > x * C then (bigA C a).cap else x * C) = (if a.cap > x then a.cap else x) * C := by
      show (if a.cap * C > x * C then a.cap * C else x * C) = _
      by_cases h : a.cap > x
      · rw [if_pos h, if_pos ((big_lt hC).2 h)]
      · rw [if_neg h, if_neg (fun h2 => h ((big_lt hC).1 h2))]
    rw [e, most_big hC l]
theorem mostC_big {C : Int} (hC : 0 < C) : mostC (bigN N C).arcs = mostC N.arcs * C := by
  have := most_big hC N.arcs 0
  rw [Int.zero_mul] at this
  exact this
theorem halfZ_big {nr k e : Nat} (h : k < nr) : halfZ (nr + e) k = halfZ nr k * 2 ^ e := by
  unfold halfZ
  rw [if_pos (by omega), if_pos h, show nr + e - 1 - k = (nr - 1 - k) + e by omega, Int.pow_add]
theorem halfZ_small {nr k e : Nat} (h1 : nr ≤ k) (h2 : k < nr + e) : 1 ≤ halfZ (nr + e) k ∧ halfZ (nr + e) k ≤ 2 ^ e := by
  refine ⟨halfZ_pos h2, ?_⟩
  unfold halfZ
  rw [if_pos h2]
  have : (2 : Nat) ^ (nr + e - 1 - k) ≤ 2 ^ e := Nat.pow_le_pow_right (by decide) (by omega)
  have h3 : ((2 ^ (nr + e - 1 - k) : Nat) : Int) ≤ ((2 ^ e : Nat) : Int) := by omega
  rw [Int.natCast_pow, Int.natCast_pow] at h3
  exact h3
def bigT (C : Int) (t : Turn) : Turn := ⟨t.least * C, t.p, t.w, t.v * C⟩
theorem big_zero {C : Int} (m : Nat) : bigL C (List.replicate m 0) = List.replicate m 0 := by unfold bigL; rw [List.map_replicate, Int.zero_mul]
theorem big_sc {nr e k : Nat} {f : List Int} {ts : List Turn} (h : Sc N nr k f ts) : Sc (bigN N (2 ^ e)) (nr + e) k (bigL (2 ^ e) f) (ts.map (bigT (2 ^ e))) := by
  have hC : (0 : Int) < 2 ^ e := Int.pow_pos (by decide)
  induction h with
  | nil =>
    rw [big_zero]
    have := Sc.nil (N := bigN N (2 ^ e)) (nr := nr + e)
    rwa [big_len] at this
  | @step k f f' ts p w h1 h2 h3 ih =>
    have hd := big_dn hC h3
    rw [← halfZ_big h2] at hd
    have := Sc.step ih (by omega) hd
    rw [List.map_append]
    have e1 : exZ ((bigN N (2 ^ e)).arcs.zip (bigL (2 ^ e) f')) (bigN N (2 ^ e)).snk = exZ (N.arcs.zip f') N.snk * 2 ^ e := big_ex _ _ _
    rw [e1, halfZ_big h2] at this
    exact this
theorem Dn.still' {M : Net} {least : Int} {f f' : List Int} {p k : Nat} (h : Dn M least f p k f') (hs : ∀ lv, IsLev M (roomL (M.arcs.zip f)) least lv → lvZ lv M.snk.toNat < 0) : p = 0 ∧ k = 0 ∧ f' = f := by
  cases h with
  | stop _ _ => exact ⟨rfl, rfl, rfl⟩
  | step h1 h2 _ _ =>
    have := hs _ h1
    omega
theorem big_turns (hR : N.Right) {e nr : Nat} (hn : 0 < nr) {f : List Int} {ts : List Turn} (h : Sc N nr nr f ts) (hM : (bigN N (2 ^ e)).Right) : ∀ (j : Nat) {g : List Int} {tb : List Turn}, nr ≤ j → Sc (bigN N (2 ^ e)) (nr + e) j g tb →
    g = bigL (2 ^ e) f ∧ (∀ (i : Nat) (t : Turn), ts[i]? = some t → tb[i]? = some (bigT (2 ^ e) t)) ∧ ∀ (i : Nat) (t : Turn), nr ≤ i → tb[i]? = some t → t.p = 0 ∧ t.v = exZ (N.arcs.zip f) N.snk * 2 ^ e := by
  have hC : (0 : Int) < 2 ^ e := Int.pow_pos (by decide)
  have hbs := big_sc (e := e) h
  obtain ⟨_, hf, htl, _, _, _, hlast⟩ := h.all hR
  obtain ⟨lv0, g1, g2⟩ := hlast hn
  rw [show halfZ nr (nr - 1) = 1 by obtain ⟨q, rfl⟩ : ∃ q, nr = q + 1 := ⟨nr - 1, by omega⟩; rw [show q + 1 - 1 = q by omega]; exact halfZ_last] at g1
  have hb1 : IsLev (bigN N (2 ^ e)) (roomL ((bigN N (2 ^ e)).arcs.zip (bigL (2 ^ e) f))) (1 * 2 ^ e) lv0 := by
    rw [show roomL ((bigN N (2 ^ e)).arcs.zip (bigL (2 ^ e) f)) = bigL (2 ^ e) (roomL (N.arcs.zip f)) from big_room _ _]
    exact big_lev hC g1
  intro j
  induction j with
  | zero => intro g tb h0 _; omega
  | succ j ih =>
    intro g tb hj hS
    by_cases hjn : j + 1 = nr
    · subst hjn
      obtain ⟨rfl, rfl⟩ := hS.uniq hM hbs
      refine ⟨rfl, fun i t hi => by rw [List.getElem?_map, hi]; rfl, fun i t hi ht => ?_⟩
      have := (List.getElem?_eq_some_iff.1 ht).1
      rw [List.length_map] at this
      omega
    · cases hS with
      | @step _ f0 _ ts0 p w h1 h2 h3 =>
        obtain ⟨rfl, i2, i3⟩ := ih (by omega) h1
        obtain ⟨s1, s2⟩ := halfZ_small (nr := nr) (k := j) (e := e) (by omega) h2
        have hno : ∀ lv, IsLev (bigN N (2 ^ e)) (roomL ((bigN N (2 ^ e)).arcs.zip (bigL (2 ^ e) f))) (halfZ (nr + e) j) lv → lvZ lv (bigN N (2 ^ e)).snk.toNat < 0 := by
          intro lv hlv
          rw [show roomL ((bigN N (2 ^ e)).arcs.zip (bigL (2 ^ e) f)) = bigL (2 ^ e) (roomL (N.arcs.zip f)) from big_room _ _] at hlv hb1
          have := small_lev hC s1 s2 hlv
          rw [lev_uniq this hb1]
          exact g2
        obtain ⟨rfl, rfl, rfl⟩ := h3.still' hno
        have hl0 := (h1.all hM).2.2.1
        have ev : exZ ((bigN N (2 ^ e)).arcs.zip (bigL (2 ^ e) f)) (bigN N (2 ^ e)).snk = exZ (N.arcs.zip f) N.snk * 2 ^ e := big_ex _ _ _
        refine ⟨rfl, fun i t hi => ?_, fun i t hi ht => ?_⟩
        · have := (List.getElem?_eq_some_iff.1 hi).1
          rw [List.getElem?_append_left (by omega)]
          exact i2 i t hi
        · by_cases hij : i < j
          · rw [List.getElem?_append_left (by omega)] at ht
            exact i3 i t hi ht
          · have hil := (List.getElem?_eq_some_iff.1 ht).1
            rw [List.length_append, hl0] at hil
            simp at hil
            have hij2 : i = j := by omega
            have hcl : ∀ X : Turn, (ts0 ++ [X])[i]? = some X := fun X => by have := List.getElem?_concat_length (l := ts0) (a := X); rwa [hl0, ← hij2] at this
            rw [hcl] at ht
            obtain rfl := Option.some.inj ht
            exact ⟨rfl, ev⟩
theorem big_both (hR : N.Right) {e : Nat} (hM : (bigN N (2 ^ e)).Right) {f g : List Int} {ts tb : List Turn} (h : Sc N (nrOf (mostC N.arcs)) (nrOf (mostC N.arcs)) f ts) (hm : Sc (bigN N (2 ^ e)) (nrOf (mostC (bigN N (2 ^ e)).arcs)) (nrOf (mostC (bigN N (2 ^ e)).arcs)) g tb) :
    g = bigL (2 ^ e) f ∧ (0 < ts.length → tb.length = ts.length + e) ∧ (ts.length = 0 → tb.length = 0) ∧ (∀ (i : Nat) (t : Turn), ts[i]? = some t → tb[i]? = some (bigT (2 ^ e) t)) ∧ (∀ (i : Nat) (t : Turn), ts.length ≤ i → tb[i]? = some t → t.p = 0 ∧ t.v = wasV ts ts.length * 2 ^ e) := by
  have hC : (0 : Int) < 2 ^ e := Int.pow_pos (by decide)
  obtain ⟨_, hf, htl, hval, _, _, _⟩ := h.all hR
  obtain ⟨_, _, hbl, _, _, _, _⟩ := hm.all hM
  have hb := mostC_in hR N.arcs.length
  rw [List.take_of_length_le (Nat.le_refl _)] at hb
  obtain ⟨_, _, h0⟩ := floor_nr hb.1 hb.2
  rcases Int.lt_or_eq_of_le hb.1 with hp | hp
  · rw [mostC_big hC, nrOf_big hp e] at hm hbl
    have hn : 0 < nrOf (mostC N.arcs) := by
      rcases Nat.eq_zero_or_pos (nrOf (mostC N.arcs)) with h1 | h1
      · have := h0.1 h1; omega
      · exact h1
    obtain ⟨k1, k2, k3⟩ := big_turns hR hn h hM (nrOf (mostC N.arcs) + e) (by omega) hm
    refine ⟨k1, fun _ => by omega, fun hz => by omega, k2, fun i t hi ht => ?_⟩
    have := k3 i t (by omega) ht
    rw [hval, ← htl] at this
    exact this
  · rw [mostC_big hC, ← hp, Int.zero_mul, show nrOf 0 = 0 from rfl] at hm hbl
    rw [← hp, show nrOf 0 = 0 from rfl] at h htl
    have ht0 : ts = [] := List.length_eq_zero_iff.1 htl
    have hb0 : tb = [] := List.length_eq_zero_iff.1 hbl
    subst ht0
    subst hb0
    cases h
    cases hm
    refine ⟨by rw [big_zero, big_len], fun h => (by simp at h), fun _ => rfl, fun i t h => (by simp at h), fun i t _ h => (by simp at h)⟩
theorem big_arcs (C : Int) (l : List Arc) (k : Nat) (a : Arc) (h : l[k]? = some a) : arcs ((l.take (k + 1)).map (bigA C)) = arcs ((l.take k).map (bigA C)) ++ arcs [⟨a.fr, a.to, a.cap * C⟩] := by
  rw [List.take_add_one, h, List.map_append, arcs_app]; rfl
theorem big_right (hR : N.Right) (hc : ∀ a ∈ N.arcs, a.cap ≤ 1000000) {C : Int} (h0 : 0 < C) (h1 : C ≤ 1000000000) : (bigN N C).Right := by
  refine right_small hR.nodes hR.src hR.snk hR.diff (by rw [big_len]; exact hR.len) fun a ha => ?_
  obtain ⟨d, hd, rfl⟩ := List.mem_map.1 (show a ∈ N.arcs.map (bigA C) from ha)
  have g := hR.arc d hd
  refine ⟨⟨g.1, g.2.1⟩, Int.mul_nonneg g.2.2 (by omega), ?_⟩
  have : d.cap * C ≤ 1000000 * 1000000000 := Int.mul_le_mul (hc d hd) h1 (by omega) (by decide)
  show d.cap * C ≤ _
  omega
end
end Go.Proofs.Ytjbcgjahfalkaaa
