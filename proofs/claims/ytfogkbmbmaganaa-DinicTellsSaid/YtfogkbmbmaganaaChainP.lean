
/- A path of arcs, in plain terms. -/
import Derived.Test.YtfogkbmbmaganaaQX13
set_option linter.unusedVariables false
set_option linter.unusedSimpArgs false
namespace Go.Proofs.Ytfogkbmbmaganaa
open Go.RowKit
def chainL : Nat → List Int → List Arc
  | _, [] => []
  | k, c :: cs => ⟨(k : Int), ((k + 1 : Nat) : Int), c⟩ :: chainL (k + 1) cs
theorem chainL_length : ∀ (cs : List Int) (k : Nat), (chainL k cs).length = cs.length
  | [], _ => rfl
  | _ :: cs, k => by simp [chainL, chainL_length cs (k + 1)]
theorem chainL_get : ∀ (cs : List Int) (k i : Nat) (c : Int), cs[i]? = some c → (chainL k cs)[i]? = some ⟨((k + i : Nat) : Int), ((k + i + 1 : Nat) : Int), c⟩
  | [], _, _, _, h => by simp at h
  | d :: cs, k, 0, c, h => by
    simp only [List.getElem?_cons_zero, Option.some.injEq] at h
    subst h; rfl
  | d :: cs, k, i + 1, c, h => by
    have := chainL_get cs (k + 1) i c (by simpa using h)
    simp only [chainL, List.getElem?_cons_succ]
    rw [this, show k + 1 + i = k + (i + 1) by omega]
theorem chainL_mem {cs : List Int} {k : Nat} {a : Arc} (h : a ∈ chainL k cs) : ∃ (i : Nat) (c : Int), i < cs.length ∧ cs[i]? = some c ∧ a = ⟨((k + i : Nat) : Int), ((k + i + 1 : Nat) : Int), c⟩ := by
  obtain ⟨i, hi, he⟩ := List.mem_iff_getElem.1 h
  rw [chainL_length] at hi
  refine ⟨i, cs[i], hi, List.getElem?_eq_getElem hi, ?_⟩
  have := chainL_get cs k i _ (List.getElem?_eq_getElem hi)
  rw [List.getElem?_eq_getElem (by rw [chainL_length]; exact hi), he] at this
  simpa using this
theorem chain_ex : ∀ (cs f : List Int) (k v : Nat), f.length = cs.length → exZ ((chainL k cs).zip f) (v : Int) = (if k < v ∧ v ≤ k + cs.length then f.getD (v - k - 1) 0 else 0) - (if k ≤ v ∧ v < k + cs.length then f.getD (v - k) 0 else 0)
  | [], [], k, v, _ => by
    rw [if_neg (by simp only [List.length_nil]; omega), if_neg (by simp only [List.length_nil]; omega)]; rfl
  | c :: cs, x :: f, k, v, h => by
    have ih := chain_ex cs f (k + 1) v (by simpa using h)
    have e : exZ ((chainL k (c :: cs)).zip (x :: f)) (v : Int) = ((if ((k + 1 : Nat) : Int) = v then x else 0) - (if (k : Int) = v then x else 0)) + exZ ((chainL (k + 1) cs).zip f) v := by
      simp [chainL, exZ]
    rw [e, ih]
    simp only [List.length_cons]
    by_cases h1 : v = k
    · subst h1
      rw [if_neg (by omega), if_pos rfl, if_neg (by omega), if_neg (by omega), if_neg (by omega), if_pos (by omega), Nat.sub_self]
      simp
    · by_cases h2 : v = k + 1
      · subst h2
        rw [if_pos rfl, if_neg (by omega), if_neg (by omega), if_pos (show k < k + 1 ∧ k + 1 ≤ k + (cs.length + 1) by omega)]
        have e1 : k + 1 - k - 1 = 0 := by omega
        have e2 : k + 1 - k = 0 + 1 := by omega
        rw [e1, e2, List.getD_cons_zero, List.getD_cons_succ]
        by_cases h3 : 0 < cs.length
        · rw [if_pos (by omega), if_pos (by omega), Nat.sub_self]; omega
        · rw [if_neg (by omega), if_neg (by omega)]; omega
      · rw [if_neg (by omega), if_neg (by omega)]
        by_cases h3 : k < v
        · have e1 : v - k - 1 = (v - (k + 1) - 1) + 1 := by omega
          have e2 : v - k = (v - (k + 1)) + 1 := by omega
          rw [e1, e2, List.getD_cons_succ, List.getD_cons_succ]
          by_cases h4 : v ≤ k + 1 + cs.length
          · rw [if_pos (show k + 1 < v ∧ v ≤ k + 1 + cs.length by omega), if_pos (show k < v ∧ v ≤ k + (cs.length + 1) by omega)]
            by_cases h5 : v < k + 1 + cs.length
            · rw [if_pos (by omega), if_pos (by omega)]; omega
            · rw [if_neg (by omega), if_neg (by omega)]; omega
          · rw [if_neg (by omega), if_neg (by omega), if_neg (by omega), if_neg (by omega)]; omega
        · rw [if_neg (by omega), if_neg (by omega), if_neg (by omega), if_neg (by omega)]; omega
  | [], _ :: _, _, _, h => by simp at h
  | _ :: _, [], _, _, h => by simp at h
def chainN (cs : List Int) : Net := ⟨((cs.length + 1 : Nat) : Int), 1, ((cs.length + 1 : Nat) : Int), chainL 1 cs⟩
theorem chain_flow {cs f : List Int} (hf : IsFlow (chainN cs) f) : ∀ i, i < cs.length → f.getD i 0 = exZ ((chainN cs).arcs.zip f) (chainN cs).snk := by
  have hl : f.length = cs.length := by have := hf.len; rwa [show (chainN cs).arcs = chainL 1 cs from rfl, chainL_length] at this
  have hval : ∀ h : 0 < cs.length, exZ ((chainN cs).arcs.zip f) (chainN cs).snk = f.getD (cs.length - 1) 0 := by
    intro h
    have := chain_ex cs f 1 (cs.length + 1) hl
    rw [if_pos (by omega), if_neg (by omega), show cs.length + 1 - 1 - 1 = cs.length - 1 by omega, Int.sub_zero] at this
    exact this
  intro i hi
  rw [hval (by omega)]
  obtain ⟨d, hd⟩ : ∃ d, i + d = cs.length - 1 := ⟨cs.length - 1 - i, by omega⟩
  induction d generalizing i with
  | zero => rw [show i = cs.length - 1 by omega]
  | succ d ih =>
    rw [← ih (i + 1) (by omega) (by omega)]
    have h1 := hf.kept ((i + 2 : Nat) : Int) (by show 1 ≤ ((i + 2 : Nat) : Int) ∧ ((i + 2 : Nat) : Int) ≤ ((cs.length + 1 : Nat) : Int); omega) (by show ((i + 2 : Nat) : Int) ≠ 1; omega) (by show ((i + 2 : Nat) : Int) ≠ ((cs.length + 1 : Nat) : Int); omega)
    rw [show (chainN cs).arcs = chainL 1 cs from rfl, chain_ex cs f 1 (i + 2) hl, if_pos (by omega), if_pos (by omega), show i + 2 - 1 - 1 = i by omega, show i + 2 - 1 = i + 1 by omega] at h1
    omega
theorem chain_right {cs : List Int} (h1 : 0 < cs.length) (h2 : cs.length ≤ 60) (hc : ∀ c ∈ cs, 0 ≤ c ∧ c ≤ 99) : (chainN cs).Right := by
  refine ⟨by show 2 ≤ ((cs.length + 1 : Nat) : Int) ∧ ((cs.length + 1 : Nat) : Int) ≤ 500; omega, by show (1 : Int) ≤ 1 ∧ (1 : Int) ≤ ((cs.length + 1 : Nat) : Int); omega, by show 1 ≤ ((cs.length + 1 : Nat) : Int) ∧ ((cs.length + 1 : Nat) : Int) ≤ ((cs.length + 1 : Nat) : Int); omega, by show (1 : Int) ≠ ((cs.length + 1 : Nat) : Int); omega, by show (chainL 1 cs).length ≤ 2000; rw [chainL_length]; omega, fun a ha => ?_, ?_⟩
  · obtain ⟨i, c, hi, hg, rfl⟩ := chainL_mem ha
    have := hc c (List.mem_of_getElem? hg)
    show (1 ≤ ((1 + i : Nat) : Int) ∧ ((1 + i : Nat) : Int) ≤ ((cs.length + 1 : Nat) : Int)) ∧ (1 ≤ ((1 + i + 1 : Nat) : Int) ∧ ((1 + i + 1 : Nat) : Int) ≤ ((cs.length + 1 : Nat) : Int)) ∧ 0 ≤ c
    omega
  · have key : ∀ (cs : List Int) (k : Nat), (∀ c ∈ cs, 0 ≤ c ∧ c ≤ 99) → ((chainL k cs).map (·.cap)).sum ≤ 99 * cs.length := by
      intro cs
      induction cs with
      | nil => intro _ _; exact Int.le_refl _
      | cons c cs ih =>
        intro k h
        have h3 := ih (k + 1) fun d hd => h d (by simp [hd])
        have h4 := h c (by simp)
        simp only [chainL, List.map_cons, List.sum_cons, List.length_cons]
        omega
    have := key cs 1 hc
    show ((chainL 1 cs).map (·.cap)).sum ≤ _
    omega
theorem chain_arc {cs : List Int} {i : Nat} {c : Int} (h : cs[i]? = some c) : (chainN cs).arcs[i]? = some ⟨((i + 1 : Nat) : Int), ((i + 2 : Nat) : Int), c⟩ := by
  have := chainL_get cs 1 i c h
  rw [show 1 + i = i + 1 by omega] at this
  exact this
theorem chain_ends {cs : List Int} {i : Nat} (h : i < cs.length) : frN (chainN cs) (2 * i) = i + 1 ∧ toN (chainN cs) (2 * i) = i + 2 := by
  have ha := chain_arc (List.getElem?_eq_getElem h)
  unfold frN toN endsZ
  rw [show 2 * i / 2 = i by omega, ha]
  simp only [endsOf]
  rw [if_neg (by omega)]
  constructor
  · show (((i + 1 : Nat) : Int)).toNat = i + 1; omega
  · show (((i + 2 : Nat) : Int)).toNat = i + 2; omega
section
variable {cs : List Int} {mo : Int}
theorem chain_le {f : List Int} (hf : IsFlow (chainN cs) f) (hm : mo ∈ cs) : exZ ((chainN cs).arcs.zip f) (chainN cs).snk ≤ mo := by
  obtain ⟨i, hi, he⟩ := List.mem_iff_getElem.1 hm
  have hl : f.length = cs.length := by have := hf.len; rwa [show (chainN cs).arcs = chainL 1 cs from rfl, chainL_length] at this
  rw [← chain_flow hf i hi]
  have hfi : f[i]? = some (f.getD i 0) := by rw [List.getD_eq_getElem?_getD, List.getElem?_eq_getElem (by omega)]; rfl
  have hz := zip_some (chain_arc (List.getElem?_eq_getElem hi)) hfi
  have := (hf.all _ (List.mem_of_getElem? hz)).2
  simp only at this
  omega
theorem chain_none (hR : (chainN cs).Right) {x : Int} (hx : 1 ≤ x) {f f' : List Int} {ws : List (List Nat × Int)} (hf : IsFlow (chainN cs) f) (hm : mo ∈ cs) (hB : BlkOf (chainN cs) x f ws f') (h : mo < x + exZ ((chainN cs).arcs.zip f) (chainN cs).snk) : ws.length = 0 ∧ f' = f := by
  obtain ⟨h1, h2, _, h4⟩ := hB.gain hR hx hf
  have h3 := chain_le h1 hm
  have : ws.length = 0 := by
    rcases Nat.eq_zero_or_pos ws.length with h0 | h0
    · exact h0
    · have : x * 1 ≤ x * (ws.length : Int) := Int.mul_le_mul_of_nonneg_left (by omega) (by omega)
      omega
  exact ⟨this, h4 this⟩
theorem chain_one (hR : (chainN cs).Right) {x : Int} (hx : 1 ≤ x) {f' : List Int} {ws : List (List Nat × Int)} (hm : mo ∈ cs) (hle : ∀ c ∈ cs, mo ≤ c) (hxm : x ≤ mo) (hB : BlkOf (chainN cs) x (List.replicate cs.length 0) ws f') : ws.length = 1 ∧ exZ ((chainN cs).arcs.zip f') (chainN cs).snk = mo := by
  have hal : (chainN cs).arcs.length = cs.length := chainL_length cs 1
  have hz : IsFlow (chainN cs) (List.replicate cs.length 0) := by have := zeroFlow _ hR; rwa [hal] at this
  have hv0 : ∀ i, i < cs.length → (List.replicate cs.length (0 : Int)).getD i 0 = 0 := fun i hi => by rw [List.getD_eq_getElem?_getD, List.getElem?_replicate, if_pos hi]; rfl
  obtain ⟨im, him, hem⟩ := List.mem_iff_getElem.1 hm
  have hval : exZ ((chainN cs).arcs.zip (List.replicate cs.length 0)) (chainN cs).snk = 0 := by rw [← chain_flow hz im him, hv0 im him]
  have hroom : ∀ i (hi : i < cs.length), (roomL ((chainN cs).arcs.zip (List.replicate cs.length 0))).getD (2 * i) 0 = cs[i] ∧ (roomL ((chainN cs).arcs.zip (List.replicate cs.length 0))).getD (2 * i + 1) 0 = 0 := by
    intro i hi
    have hfi : (List.replicate cs.length (0 : Int))[i]? = some 0 := by rw [List.getElem?_replicate, if_pos hi]
    obtain ⟨g1, g2⟩ := roomL_get (zip_some (chain_arc (List.getElem?_eq_getElem hi)) hfi)
    exact ⟨by rw [List.getD_eq_getElem?_getD, g1]; simp, by rw [List.getD_eq_getElem?_getD, g2]; rfl⟩
  have hf' := (hB.gain hR hx hz).1
  have hB0 := hB
  obtain ⟨lv, h1, h2, h3⟩ := hB0
  have hG := graded_leads h1
  have hlv : ∀ i, i ≤ cs.length → 0 ≤ lvZ lv (i + 1) := by
    intro i
    induction i with
    | zero => intro _; have := h1.src; rw [show (chainN cs).src.toNat = 0 + 1 from rfl] at this; omega
    | succ i ih =>
      intro hi
      have hi' : i < cs.length := by omega
      obtain ⟨e1, e2⟩ := chain_ends hi'
      have h4 := hle _ (List.getElem_mem hi')
      have := h1.step (2 * i) (by rw [hal]; omega) (by rw [(hroom i hi').1]; omega) (by rw [e1]; exact ih (by omega))
      rw [e2] at this
      exact this.1
  have hne : ws ≠ [] := (hB.keeps hR hx hz h1).2.2 (by
    have := hlv cs.length (Nat.le_refl _)
    rwa [show (chainN cs).snk.toNat = cs.length + 1 from by show (((cs.length + 1 : Nat) : Int)).toNat = _; omega])
  generalize hrm : roomL ((chainN cs).arcs.zip f') = rm' at h3
  cases h3 with
  | stop _ => exact absurd rfl hne
  | @walk _ _ pos W pos' W' ws' k1 k2 =>
    obtain ⟨g1, g2, _⟩ := k1.keeps hG PI.start
    have hend := g2 rfl
    obtain ⟨hWne, hlt, hnd, _, _, hma, ⟨f1, hf1, hf1e⟩, hPI', _⟩ := push_keeps hR hG hx hz rfl g1 hend
    have hon := g1.on
    rw [hend] at hon
    obtain ⟨p1, p2, p3⟩ := push_flow hR hz hlt hnd hon (a := mostR (roomL ((chainN cs).arcs.zip (List.replicate cs.length 0))) W') (by omega) (fun r hr => mostR_le r hr)
    obtain ⟨r, hr, hre⟩ := mostR_at (rm := roomL ((chainN cs).arcs.zip (List.replicate cs.length 0))) hWne
    have hrl := hlt r hr
    rw [hal] at hrl
    have ha : mo ≤ mostR (roomL ((chainN cs).arcs.zip (List.replicate cs.length 0))) W' := by
      have hi : r / 2 < cs.length := by omega
      rcases Nat.mod_two_eq_zero_or_one r with h0 | h0
      · have := (hroom (r / 2) hi).1
        rw [show 2 * (r / 2) = r by omega] at this
        rw [hre, this]
        exact hle _ (List.getElem_mem hi)
      · have := (hroom (r / 2) hi).2
        rw [show 2 * (r / 2) + 1 = r by omega] at this
        rw [hre, this] at hma
        omega
    have hle2 := chain_le p1 hm
    rw [p3, hval] at hle2
    obtain ⟨f2, q1, q2, q3, _⟩ := k2.keeps hR hG hx _ p1 p2 hPI'
    have hff : f' = f2 := room_inj hf'.len q1.len (hrm.trans q2)
    subst hff
    rw [p3, hval] at q3
    have hle3 := chain_le q1 hm
    have : ws'.length = 0 := by
      rcases Nat.eq_zero_or_pos ws'.length with h0 | h0
      · exact h0
      · have : x * 1 ≤ x * (ws'.length : Int) := Int.mul_le_mul_of_nonneg_left (by omega) (by omega)
        omega
    rw [this] at q3
    exact ⟨by rw [List.length_cons, this], by omega⟩
end
end Go.Proofs.Ytfogkbmbmaganaa
