
/- The greatest value by halves, in plain terms. -/
import Derived.Test.YtjbcgjahfalkaaaMaxG
import Derived.Test.YtjbcgjahfalkaaaQX0
import Derived.Test.YtjbcgjahfalkaaaMoreP
set_option linter.unusedVariables false
set_option linter.unusedSimpArgs false
namespace Go.Proofs.Ytjbcgjahfalkaaa
open Go.RowKit
def halfZ (nr k : Nat) : Int := if k < nr then 2 ^ (nr - 1 - k) else 0
theorem halfZ_pos {nr k : Nat} (h : k < nr) : 1 ≤ halfZ nr k := by
  unfold halfZ
  rw [if_pos h]
  have : (0 : Int) < 2 ^ (nr - 1 - k) := Int.pow_pos (by decide)
  omega
theorem halfZ_end {nr k : Nat} (h : nr ≤ k) : halfZ nr k = 0 := by unfold halfZ; rw [if_neg (by omega)]
theorem halfZ_last {k : Nat} : halfZ (k + 1) k = 1 := by unfold halfZ; rw [if_pos (by omega)]; simp
theorem halfZ_twice {nr k : Nat} (h : k + 1 < nr) : halfZ nr k = 2 * halfZ nr (k + 1) := by
  unfold halfZ
  rw [if_pos (by omega), if_pos h, show nr - 1 - k = (nr - 1 - (k + 1)) + 1 by omega, Int.pow_succ]
  omega
theorem halfZ_half (nr k : Nat) : halfZ nr (k + 1) = halfZ nr k / 2 := by
  by_cases h : k + 1 < nr
  · rw [halfZ_twice h]; omega
  · rw [halfZ_end (k := k + 1) (by omega)]
    by_cases h2 : k < nr
    · obtain rfl : nr = k + 1 := by omega
      rw [halfZ_last]; rfl
    · rw [halfZ_end (by omega)]; rfl
theorem halfZ_le {nr k : Nat} (h : nr ≤ 63) : halfZ nr k ≤ 4611686018427387904 := by
  unfold halfZ
  split
  · have : (2 : Nat) ^ (nr - 1 - k) ≤ 2 ^ 62 := Nat.pow_le_pow_right (by decide) (by omega)
    have e : ((2 ^ (nr - 1 - k) : Nat) : Int) = 2 ^ (nr - 1 - k) := by rw [Int.natCast_pow]; rfl
    rw [← e]
    omega
  · omega
structure Turn where
  least : Int
  p : Nat
  w : Nat
  v : Int
inductive Sc (N : Net) (nr : Nat) : Nat → List Int → List Turn → Prop
  | nil : Sc N nr 0 (List.replicate N.arcs.length 0) []
  | step {k : Nat} {f f' : List Int} {ts : List Turn} {p w : Nat} : Sc N nr k f ts → k < nr → Dn N (halfZ nr k) f p w f' → Sc N nr (k + 1) f' (ts ++ [⟨halfZ nr k, p, w, exZ (N.arcs.zip f') N.snk⟩])
def wasV (ts : List Turn) (i : Nat) : Int := if i = 0 then 0 else match ts[i - 1]? with
  | some t => t.v
  | none => 0
theorem ex_zero {N : Net} : exZ (N.arcs.zip (List.replicate N.arcs.length 0)) N.snk = 0 := exZ_noughts N.arcs N.snk
def levS (lv : List Int) (n : Nat) : List Int := ((List.range (n + 1)).filter fun (v : Nat) => decide (0 < v ∧ 0 ≤ lvZ lv v)).map fun (v : Nat) => (v : Int)
theorem mem_levS {lv : List Int} {n : Nat} {x : Int} : x ∈ levS lv n ↔ 1 ≤ x ∧ x ≤ n ∧ 0 ≤ lvZ lv x.toNat := by
  unfold levS
  simp only [List.mem_map, List.mem_filter, List.mem_range, decide_eq_true_eq]
  constructor
  · rintro ⟨v, ⟨h1, h2, h3⟩, rfl⟩
    exact ⟨by omega, by omega, by rwa [Int.toNat_natCast]⟩
  · rintro ⟨h1, h2, h3⟩
    exact ⟨x.toNat, ⟨by omega, by omega, h3⟩, by omega⟩
theorem lev_cut {N : Net} (hR : N.Right) {rm lv : List Int} {least : Int} (h : IsLev N rm least lv) (hs : lvZ lv N.snk.toNat < 0) : IsCut N (levS lv N.nodes.toNat) := by
  have hnn := hR.nodes
  have h1 := hR.src
  refine ⟨?_, fun x hx => ?_, mem_levS.2 ⟨h1.1, by omega, by rw [h.src]; exact Int.le_refl _⟩, fun hx => ?_⟩
  · unfold levS
    rw [List.pairwise_map]
    exact List.Pairwise.filter _ (List.pairwise_lt_range.imp fun h => by omega)
  · have := mem_levS.1 hx
    exact ⟨this.1, by omega⟩
  · have := (mem_levS.1 hx).2.2
    omega
theorem sum_atmost (b : Int) : ∀ (l : List Int), (∀ x ∈ l, x ≤ b) → l.sum ≤ b * l.length
  | [], _ => by simp
  | x :: l, h => by
    have ih := sum_atmost b l fun y hy => h y (by simp [hy])
    have := h x (by simp)
    rw [List.sum_cons, List.length_cons, Int.natCast_add, Int.mul_add]
    omega
theorem gap {N : Net} (hR : N.Right) {f g lv : List Int} {least : Int} (hle : 1 ≤ least) (hf : IsFlow N f) (hg : IsFlow N g) (hlv : IsLev N (roomL (N.arcs.zip f)) least lv) (hs : lvZ lv N.snk.toNat < 0) :
    exZ (N.arcs.zip g) N.snk - exZ (N.arcs.zip f) N.snk ≤ (least - 1) * N.arcs.length := by
  have hc := lev_cut hR hlv hs
  have hnn := hR.nodes
  obtain ⟨s, hse⟩ : ∃ s, s = levS lv N.nodes.toNat := ⟨_, rfl⟩
  rw [← hse] at hc
  have h1 := weak_cut hR hg hc
  have h2 := value_cut hR hf hc
  have h3 := slack_sum s (N.arcs.zip f)
  rw [show (N.arcs.zip f).map (·.1) = N.arcs from List.map_fst_zip (by have := hf.len; omega)] at h3
  have h4 := sum_atmost (least - 1) (slackL s (N.arcs.zip f)) fun x hx => ?_
  · rw [show (slackL s (N.arcs.zip f)).length = N.arcs.length by unfold slackL; rw [List.length_map, List.length_zip, hf.len, Nat.min_self]] at h4
    omega
  · obtain ⟨p, hp, rfl⟩ := List.mem_map.1 hx
    obtain ⟨i, hi, hip⟩ := List.mem_iff_getElem.1 hp
    have hz : (N.arcs.zip f)[i]? = some p := by rw [List.getElem?_eq_getElem hi, hip]
    have ha := (List.getElem?_zip_eq_some.1 hz).1
    have hil := (List.getElem?_eq_some_iff.1 ha).1
    have har := hR.arc p.1 (List.mem_of_getElem? ha)
    obtain ⟨g1, g2⟩ := roomL_get hz
    have hr := hf.all p hp
    have e1 : endsZ N (2 * i) = (p.1.fr, p.1.to) := by
      unfold endsZ; rw [show 2 * i / 2 = i by omega, ha]; show endsOf p.1 (2 * i) = _; unfold endsOf; rw [if_neg (by omega)]
    have e2 : endsZ N (2 * i + 1) = (p.1.to, p.1.fr) := by
      unfold endsZ; rw [show (2 * i + 1) / 2 = i by omega, ha]; show endsOf p.1 (2 * i + 1) = _; unfold endsOf; rw [if_pos (by omega)]
    have k1 := hlv.step (2 * i) (by omega)
    have k2 := hlv.step (2 * i + 1) (by omega)
    unfold frN toN at k1 k2
    rw [e1, List.getD_eq_getElem?_getD, g1, Option.getD_some] at k1
    rw [e2, List.getD_eq_getElem?_getD, g2, Option.getD_some] at k2
    simp only at k1 k2
    have m1 : p.1.fr ∈ s ↔ 0 ≤ lvZ lv p.1.fr.toNat := by rw [hse, mem_levS]; exact ⟨fun h => h.2.2, fun h => ⟨har.1.1, by omega, h⟩⟩
    have m2 : p.1.to ∈ s ↔ 0 ≤ lvZ lv p.1.to.toNat := by rw [hse, mem_levS]; exact ⟨fun h => h.2.2, fun h => ⟨har.2.1.1, by omega, h⟩⟩
    by_cases c1 : p.1.fr ∈ s <;> by_cases c2 : p.1.to ∈ s
    · rw [if_neg (fun h => h.2 c2), if_neg (fun h => h.1 c1)]; omega
    · rw [if_pos ⟨c1, c2⟩, if_neg (fun h => h.1 c1)]
      have : ¬ least ≤ p.1.cap - p.2 := fun h => c2 (m2.2 (k1 h (m1.1 c1)).1)
      omega
    · rw [if_neg (fun h => c1 h.1), if_pos ⟨c1, c2⟩]
      have : ¬ least ≤ p.2 := fun h => c1 (m1.2 (k2 h (m2.1 c2)).1)
      omega
    · rw [if_neg (fun h => c1 h.1), if_neg (fun h => c2 h.2)]; omega
structure TurnOk (N : Net) (nr i : Nat) (was : Int) (t : Turn) : Prop where
  least : t.least = halfZ nr i
  pos : 1 ≤ t.least
  rise : t.least * t.w ≤ t.v - was
  same : t.w = 0 ↔ t.v = was
  walks : t.p ≤ t.w
  few : (t.p : Int) + 1 ≤ N.nodes
  gap : ∀ g, IsFlow N g → exZ (N.arcs.zip g) N.snk - t.v ≤ (t.least - 1) * N.arcs.length
  up : 0 < i → t.v - was ≤ (2 * t.least - 1) * N.arcs.length
  bound : 0 ≤ t.v ∧ t.v ≤ 4611686018427387903
theorem Dn.zero {N : Net} {least : Int} {f f' : List Int} {p k : Nat} (h : Dn N least f p k f') (hR : N.Right) (hle : 1 ≤ least) (hf : IsFlow N f) : k = 0 → f' = f := by
  cases h with
  | stop _ _ => exact fun _ => rfl
  | @step _ f1 _ lv ws p k h1 h2 h3 h4 =>
    intro h0
    have := (h3.keeps hR hle hf h1).2.2 h2
    have := List.length_pos_iff.2 this
    omega
theorem Sc.all {N : Net} (hR : N.Right) {nr k : Nat} {f : List Int} {ts : List Turn} (h : Sc N nr k f ts) : k ≤ nr ∧ IsFlow N f ∧ ts.length = k ∧ exZ (N.arcs.zip f) N.snk = wasV ts k ∧ 0 ≤ wasV ts k ∧ (∀ i t, ts[i]? = some t → TurnOk N nr i (wasV ts i) t) ∧
    (0 < k → ∃ lv, IsLev N (roomL (N.arcs.zip f)) (halfZ nr (k - 1)) lv ∧ lvZ lv N.snk.toNat < 0) := by
  induction h with
  | nil =>
    refine ⟨Nat.zero_le _, zeroFlow N hR, rfl, ?_, ?_, fun i t h => (by simp at h), fun h => absurd h (by omega)⟩
    · rw [ex_zero]; rfl
    · exact Int.le_refl _
  | @step k f f' ts p w h1 h2 h3 ih =>
    obtain ⟨_, hf, hl, hv, hv0, hall, hlast⟩ := ih
    have hle := halfZ_pos h2
    obtain ⟨k1, k2, k3, lv', k4, k5⟩ := h3.keeps hR hle hf
    have hw : wasV (ts ++ [⟨halfZ nr k, p, w, exZ (N.arcs.zip f') N.snk⟩]) (k + 1) = exZ (N.arcs.zip f') N.snk := by
      unfold wasV
      rw [if_neg (by omega), show k + 1 - 1 = ts.length by omega, List.getElem?_concat_length]
    have hwk : ∀ i, i ≤ k → wasV (ts ++ [⟨halfZ nr k, p, w, exZ (N.arcs.zip f') N.snk⟩]) i = wasV ts i := by
      intro i hi
      unfold wasV
      by_cases h0 : i = 0
      · rw [if_pos h0, if_pos h0]
      · rw [if_neg h0, if_neg h0, List.getElem?_append_left (by omega)]
    have hm0 : 0 ≤ halfZ nr k * (w : Int) := Int.mul_nonneg (by omega) (by omega)
    refine ⟨h2, k1, by rw [List.length_append, hl]; rfl, hw.symm, by rw [hw]; omega, fun i t ht => ?_, fun _ => ⟨lv', k4, k5⟩⟩
    by_cases hi : i < k
    · rw [List.getElem?_append_left (by omega)] at ht
      rw [hwk i (by omega)]
      exact hall i t ht
    · obtain rfl : i = k := by
        have := (List.getElem?_eq_some_iff.1 ht).1
        rw [List.length_append, hl] at this
        simp at this
        omega
      have hcl : ∀ X : Turn, (ts ++ [X])[i]? = some X := fun X => by have := List.getElem?_concat_length (l := ts) (a := X); rwa [hl] at this
      rw [hcl] at ht
      obtain rfl := Option.some.inj ht
      rw [hwk i (Nat.le_refl _), ← hv]
      have hb := value_bound hR k1.toRanged N.snk
      refine ⟨rfl, hle, by show halfZ nr i * (w : Int) ≤ exZ (N.arcs.zip f') N.snk - exZ (N.arcs.zip f) N.snk; omega, ⟨fun h0 => ?_, fun h0 => ?_⟩, k3, h3.few hR hle hf, fun g hg => ?_, fun hi0 => ?_, by show 0 ≤ exZ (N.arcs.zip f') N.snk; omega, hb.2⟩
      · have h0 : w = 0 := h0
        show exZ (N.arcs.zip f') N.snk = exZ (N.arcs.zip f) N.snk
        rw [h3.zero hR hle hf h0]
      · have h0 : exZ (N.arcs.zip f') N.snk = exZ (N.arcs.zip f) N.snk := h0
        show w = 0
        rcases Nat.eq_zero_or_pos w with h | h
        · exact h
        · have : 1 * 1 ≤ halfZ nr i * (w : Int) := Int.mul_le_mul hle (by omega) (by omega) (by omega)
          omega
      · exact gap hR hle k1 hg k4 k5
      · obtain ⟨lv0, g1, g2⟩ := hlast hi0
        have e := halfZ_twice (nr := nr) (k := i - 1) (by omega)
        rw [show i - 1 + 1 = i by omega] at e
        have := gap hR (halfZ_pos (show i - 1 < nr by omega)) hf k1 g1 g2
        rw [e] at this
        exact this
theorem Sc.uniq {N : Net} (hR : N.Right) {nr k : Nat} {f : List Int} {ts : List Turn} (h : Sc N nr k f ts) : ∀ {f2 : List Int} {ts2 : List Turn}, Sc N nr k f2 ts2 → f = f2 ∧ ts = ts2 := by
  induction h with
  | nil => intro f2 ts2 h2; cases h2; exact ⟨rfl, rfl⟩
  | @step k f f' ts p w h1 h2 h3 ih =>
    intro f2 ts2 g
    cases g with
    | step g1 g2 g3 =>
      obtain ⟨rfl, rfl⟩ := ih g1
      obtain ⟨rfl, rfl, rfl⟩ := h3.uniq hR (halfZ_pos h2) g3
      exact ⟨rfl, rfl⟩
theorem no_room {N : Net} (hR : N.Right) {rm lv : List Int} {least : Int} (h : ∀ r, r < 2 * N.arcs.length → rm.getD r 0 < least) (hlv : IsLev N rm least lv) : lvZ lv N.snk.toNat < 0 := by
  have h1 := hR.src
  have h2 := hR.snk
  have h3 := hR.diff
  rcases Int.lt_or_le (lvZ lv N.snk.toNat) 0 with h0 | h0
  · exact h0
  · rcases Int.lt_or_eq_of_le h0 with h4 | h4
    · obtain ⟨r, hr, hl, _, _⟩ := hlv.back _ h4
      have := h r hr
      omega
    · have := hlv.zero _ h4.symm
      omega
theorem Sc.stop {N : Net} (hR : N.Right) {nr : Nat} {f : List Int} {ts : List Turn} (h : Sc N nr nr f ts) (hcap : nr = 0 → ∀ a ∈ N.arcs, a.cap = 0) {lv : List Int} (hlv : IsLev N (roomL (N.arcs.zip f)) 1 lv) : lvZ lv N.snk.toNat < 0 := by
  obtain ⟨_, hf, _, _, _, _, hlast⟩ := h.all hR
  rcases Nat.eq_zero_or_pos nr with h0 | h0
  · refine no_room hR (fun r hr => ?_) hlv
    obtain ⟨a, ha⟩ : ∃ a, N.arcs[r / 2]? = some a := ⟨N.arcs[r / 2], List.getElem?_eq_getElem (by omega)⟩
    obtain ⟨x, hx⟩ : ∃ x, f[r / 2]? = some x := ⟨f[r / 2]'(by rw [hf.len]; omega), List.getElem?_eq_getElem _⟩
    have hz := zip_some ha hx
    obtain ⟨g1, g2⟩ := roomL_get hz
    have hr2 := hf.all _ (List.mem_of_getElem? hz)
    have hc := hcap h0 a (List.mem_of_getElem? ha)
    simp only at g1 g2 hr2
    rcases Nat.mod_two_eq_zero_or_one r with e | e
    · rw [show 2 * (r / 2) = r by omega] at g1
      rw [List.getD_eq_getElem?_getD, g1, Option.getD_some]; omega
    · rw [show 2 * (r / 2) + 1 = r by omega] at g2
      rw [List.getD_eq_getElem?_getD, g2, Option.getD_some]; omega
  · obtain ⟨lv2, g1, g2⟩ := hlast h0
    obtain ⟨j, rfl⟩ : ∃ j, nr = j + 1 := ⟨nr - 1, by omega⟩
    rw [show j + 1 - 1 = j by omega, halfZ_last] at g1
    rw [lev_uniq hlv g1]; exact g2
theorem Dn.still {N : Net} (hR : N.Right) {f f' : List Int} {p k : Nat} (h : Dn N 1 f p k f') (hs : ∀ lv, IsLev N (roomL (N.arcs.zip f)) 1 lv → lvZ lv N.snk.toNat < 0) : p = 0 ∧ k = 0 ∧ f' = f := by
  cases h with
  | stop _ _ => exact ⟨rfl, rfl, rfl⟩
  | step h1 h2 _ _ =>
    have := hs _ h1
    omega
def mostC (l : List Arc) : Int := l.foldl (fun m a => if a.cap > m then a.cap else m) 0
theorem mostC_spec (l : List Arc) : ∀ (x : Int), (∀ a ∈ l, 0 ≤ a.cap) → x ≤ l.foldl (fun m a => if a.cap > m then a.cap else m) x ∧ (∀ a ∈ l, a.cap ≤ l.foldl (fun m a => if a.cap > m then a.cap else m) x) ∧ (l.foldl (fun m a => if a.cap > m then a.cap else m) x = x ∨ ∃ a ∈ l, l.foldl (fun m a => if a.cap > m then a.cap else m) x = a.cap) := by
  induction l with
  | nil => exact fun x _ => ⟨Int.le_refl _, fun a h => (by simp at h), .inl rfl⟩
  | cons b l ih =>
    intro x h
    simp only [List.foldl_cons]
    obtain ⟨i1, i2, i3⟩ := ih (if b.cap > x then b.cap else x) fun a ha => h a (by simp [ha])
    refine ⟨?_, fun a ha => ?_, ?_⟩
    · split at i1 <;> rename_i hc <;> simp only [hc, if_true, if_false] <;> omega
    · rcases List.mem_cons.1 ha with rfl | ha
      · split at i1 <;> rename_i hc <;> simp only [hc, if_true, if_false] <;> omega
      · exact i2 a ha
    · rcases i3 with h1 | ⟨a, ha, h1⟩
      · by_cases hc : b.cap > x
        · right; rw [if_pos hc] at h1 ⊢; exact ⟨b, by simp, h1⟩
        · left; rw [if_neg hc] at h1 ⊢; exact h1
      · exact .inr ⟨a, by simp [ha], h1⟩
end Go.Proofs.Ytjbcgjahfalkaaa
