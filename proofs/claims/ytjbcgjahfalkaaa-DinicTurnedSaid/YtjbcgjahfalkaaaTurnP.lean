
/- Networks turned, with their arcs in another order, and with an arc parted: the greatest value is the same. -/
import Derived.Test.YtjbcgjahfalkaaaMoreP
set_option linter.unusedVariables false
set_option linter.unusedSimpArgs false
namespace Go.Proofs.Ytjbcgjahfalkaaa
open Go.RowKit
theorem src_snk {N : Net} (hR : N.Right) {f : List Int} (hf : IsFlow N f) : exZ (N.arcs.zip f) N.src = - exZ (N.arcs.zip f) N.snk := by
  have hs : IsCut N [N.src] := ⟨List.pairwise_singleton _ _, fun x hx => by rw [List.mem_singleton.1 hx]; exact hR.src, by simp, fun h => hR.diff (List.mem_singleton.1 h).symm⟩
  rw [cut_src hf hs, value_cut hR hf hs]
theorem turn_turn (N : Net) : turnN (turnN N) = N := by
  unfold turnN
  simp only [List.map_map]
  congr 1
  induction N.arcs with
  | nil => rfl
  | cons a l ih => rw [List.map_cons, ih]; rfl
theorem turn_val {N : Net} (hR : N.Right) {f : List Int} (hf : IsFlow N f) : exZ ((turnN N).arcs.zip f) (turnN N).snk = exZ (N.arcs.zip f) N.snk := by
  show exZ ((N.arcs.map turnA).zip f) N.src = _
  rw [turn_ex, src_snk hR hf]; omega
/-- A network turned has the same greatest value. -/
theorem turn_value {N : Net} (hR : N.Right) {f g l1 l2 : List Int} (hf : IsFlow N f) (hl1 : IsLev N (roomL (N.arcs.zip f)) 1 l1) (h1 : lvZ l1 N.snk.toNat < 0)
    (hg : IsFlow (turnN N) g) (hl2 : IsLev (turnN N) (roomL ((turnN N).arcs.zip g)) 1 l2) (h2 : lvZ l2 (turnN N).snk.toNat < 0) : exZ ((turnN N).arcs.zip g) (turnN N).snk = exZ (N.arcs.zip f) N.snk := by
  have hT := turn_right hR
  have e1 := great hT hg (turn_flow hf) hl2 h2
  rw [turn_val hR hf] at e1
  have hg2 := turn_flow hg
  have ev := turn_val hT hg
  rw [turn_turn] at hg2 ev
  have e2 := great hR hf hg2 hl1 h1
  omega
/-- Where cuts let through the same the greatest value is the same. -/
theorem same_value {N M : Net} (hR : N.Right) (hM : M.Right) (e1 : M.nodes = N.nodes) (e2 : M.src = N.src) (e3 : M.snk = N.snk) (hcap : ∀ s, capZ s M.arcs = capZ s N.arcs) {f g l1 l2 : List Int} (hf : IsFlow N f) (hl1 : IsLev N (roomL (N.arcs.zip f)) 1 l1) (h1 : lvZ l1 N.snk.toNat < 0)
    (hg : IsFlow M g) (hl2 : IsLev M (roomL (M.arcs.zip g)) 1 l2) (h2 : lvZ l2 M.snk.toNat < 0) : exZ (M.arcs.zip g) M.snk = exZ (N.arcs.zip f) N.snk := by
  obtain ⟨s, hs, es⟩ := cut_at hR hf hl1 h1
  obtain ⟨t, ht, et⟩ := cut_at hM hg hl2 h2
  have k1 := weak_cut hM hg (cut_of e1 e2 e3 hs)
  have k2 := weak_cut hR hf (cut_of (N := M) (M := N) e1.symm e2.symm e3.symm ht)
  rw [hcap] at k1 et
  omega
theorem capZ_one (s : List Int) (a : Arc) : capZ s [a] = if a.fr ∈ s ∧ a.to ∉ s then a.cap else 0 := by
  simp [capZ]
theorem capZ_set (s : List Int) {a b : Arc} (hf : b.fr = a.fr) (ht : b.to = a.to) : ∀ (l : List Arc) (i : Nat), l[i]? = some a → capZ s (l.set i b) + capZ s [a] = capZ s l + capZ s [b]
  | [], _, h => by simp at h
  | d :: l, 0, h => by
    obtain rfl : d = a := by simpa using h
    rw [List.set_cons_zero, show b :: l = [b] ++ l from rfl, show d :: l = [d] ++ l from rfl, capZ_app, capZ_app]
    omega
  | d :: l, i + 1, h => by
    have ih := capZ_set s hf ht l i (by simpa using h)
    rw [List.set_cons_succ, show d :: l.set i b = [d] ++ l.set i b from rfl, show d :: l = [d] ++ l from rfl, capZ_app, capZ_app]
    omega
/-- An arc parted in two. -/
theorem capZ_part (s : List Int) {l : List Arc} {i : Nat} {a : Arc} (h : l[i]? = some a) (x : Int) : capZ s (l.set i ⟨a.fr, a.to, a.cap - x⟩ ++ [⟨a.fr, a.to, x⟩]) = capZ s l := by
  have h1 := capZ_set s (a := a) (b := ⟨a.fr, a.to, a.cap - x⟩) rfl rfl l i h
  rw [capZ_app]
  rw [capZ_one, capZ_one] at h1
  rw [capZ_one]
  simp only at h1 ⊢
  by_cases hc : a.fr ∈ s ∧ a.to ∉ s
  · rw [if_pos hc, if_pos hc] at h1
    rw [if_pos hc]; omega
  · rw [if_neg hc, if_neg hc] at h1
    rw [if_neg hc]; omega
theorem capZ_rot (s : List Int) (l : List Arc) (k : Nat) : capZ s (l.drop k ++ l.take k) = capZ s l := by
  rw [capZ_app, Int.add_comm, ← capZ_app, List.take_append_drop]
theorem arcs_less (x : Int) : ∀ (l : List Arc) (k : Nat) (a : Arc), l[k]? = some a → (arcs l).set (k * 3 + 2) (.int .i64 x) = arcs (l.set k ⟨a.fr, a.to, x⟩)
  | [], _, _, h => by simp at h
  | b :: l, 0, a, h => by
    simp only [List.getElem?_cons_zero, Option.some.injEq] at h
    subst h; rfl
  | b :: l, k + 1, a, h => by
    have := arcs_less x l k a (by simpa using h)
    rw [List.set_cons_succ]
    show (Value.int .i64 b.fr :: .int .i64 b.to :: .int .i64 b.cap :: arcs l).set ((k + 1) * 3 + 2) _ = Value.int .i64 b.fr :: .int .i64 b.to :: .int .i64 b.cap :: arcs _
    rw [← this, show (k + 1) * 3 + 2 = (k * 3 + 2) + 1 + 1 + 1 by omega]
    rfl
theorem arcs_drop : ∀ (l : List Arc) (k : Nat), (arcs l).drop (k * 3) = arcs (l.drop k)
  | [], k => by simp [arcs]
  | a :: l, 0 => by simp
  | a :: l, k + 1 => by
    rw [List.drop_succ_cons, ← arcs_drop l k, show (k + 1) * 3 = k * 3 + 1 + 1 + 1 by omega]
    rfl
theorem arcs_take : ∀ (l : List Arc) (k : Nat), (arcs l).take (k * 3) = arcs (l.take k)
  | [], k => by simp [arcs]
  | a :: l, 0 => by simp; rfl
  | a :: l, k + 1 => by
    rw [List.take_succ_cons, show (k + 1) * 3 = k * 3 + 1 + 1 + 1 by omega]
    show Value.int .i64 a.fr :: .int .i64 a.to :: .int .i64 a.cap :: (arcs l).take (k * 3) = _
    rw [arcs_take l k]; rfl
/-- The arcs in another order, one of them parted. -/
def partN (N : Net) (k i : Nat) (a : Arc) (x : Int) : Net := ⟨N.nodes, N.src, N.snk, (N.arcs.drop k ++ N.arcs.take k).set i ⟨a.fr, a.to, a.cap - x⟩ ++ [⟨a.fr, a.to, x⟩]⟩
theorem part_cap {N : Net} {k i : Nat} {a : Arc} {x : Int} (h : (N.arcs.drop k ++ N.arcs.take k)[i]? = some a) (s : List Int) : capZ s (partN N k i a x).arcs = capZ s N.arcs := by
  show capZ s ((N.arcs.drop k ++ N.arcs.take k).set i _ ++ _) = _
  rw [capZ_part s h, capZ_rot]
theorem rot_mem {l : List Arc} {k : Nat} {a : Arc} (h : a ∈ l.drop k ++ l.take k) : a ∈ l := by
  rcases List.mem_append.1 h with h | h
  · exact List.mem_of_mem_drop h
  · exact List.mem_of_mem_take h
theorem part_right {N : Net} (hR : N.Right) (hl : N.arcs.length ≤ 24) (hc : ∀ a ∈ N.arcs, a.cap ≤ 1000000) {k i : Nat} {a : Arc} {x : Int} (h : (N.arcs.drop k ++ N.arcs.take k)[i]? = some a) (hx : 0 ≤ x ∧ x ≤ a.cap) : (partN N k i a x).Right := by
  have ham := rot_mem (List.mem_of_getElem? h)
  have har := hR.arc a ham
  have hac := hc a ham
  refine right_of hR rfl rfl rfl (by show (_ ++ _ : List Arc).length ≤ 2000; simp; omega) fun d hd => ?_
  rcases List.mem_append.1 hd with hd | hd
  · rcases List.mem_or_eq_of_mem_set hd with hd | rfl
    · have := hR.arc d (rot_mem hd)
      have := hc d (rot_mem hd)
      exact ⟨⟨by omega, by omega⟩, by omega⟩
    · exact ⟨⟨har.1, har.2.1⟩, by show 0 ≤ a.cap - x ∧ a.cap - x ≤ _; omega⟩
  · obtain rfl := List.mem_singleton.1 hd
    exact ⟨⟨har.1, har.2.1⟩, by show 0 ≤ x ∧ x ≤ _; omega⟩
end Go.Proofs.Ytjbcgjahfalkaaa
