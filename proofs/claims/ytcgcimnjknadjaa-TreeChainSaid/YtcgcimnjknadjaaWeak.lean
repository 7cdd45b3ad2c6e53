
/- Walks, and flows along them. -/
import Derived.Test.YtcgcimnjknadjaaCutA
set_option linter.unusedVariables false
set_option linter.unusedSimpArgs false
namespace Go.Proofs.Ytcgcimnjknadjaa
open Go.RowKit
theorem exZ_set : ∀ (al : List Arc) (f : List Int) (i : Nat) (a : Arc) (x m v : Int), al[i]? = some a → f[i]? = some x →
    exZ (al.zip (f.set i (x + m))) v = exZ (al.zip f) v + ((if a.to = v then m else 0) - (if a.fr = v then m else 0))
  | [], _, _, _, _, _, _, h, _ => by simp at h
  | _ :: _, [], _, _, _, _, _, _, h => by simp at h
  | b :: al, y :: f, 0, a, x, m, v, ha, hx => by
    simp only [List.getElem?_cons_zero, Option.some.injEq] at ha hx
    subst ha hx
    simp only [List.set_cons_zero, List.zip_cons_cons, exZ, List.map_cons, List.sum_cons]
    split <;> split <;> omega
  | b :: al, y :: f, i + 1, a, x, m, v, ha, hx => by
    have := exZ_set al f i a x m v (by simpa using ha) (by simpa using hx)
    simp only [exZ] at this
    simp only [List.set_cons_succ, List.zip_cons_cons, exZ, List.map_cons, List.sum_cons]
    omega
/-- A walk of arcs from a node to another. -/
def isWalk (N : Net) : Int → List Nat → Int → Prop
  | a, [], z => a = z
  | a, i :: W, z => ∃ r : Arc, N.arcs[i]? = some r ∧ r.fr = a ∧ isWalk N r.to W z
theorem isWalk_app {N : Net} {i : Nat} {r : Arc} (h : N.arcs[i]? = some r) : ∀ {W : List Nat} {a : Int}, isWalk N a W r.fr → isWalk N a (W ++ [i]) r.to
  | [], _, hw => ⟨r, h, hw.symm, rfl⟩
  | _ :: _, _, ⟨q, h1, h2, h3⟩ => ⟨q, h1, h2, isWalk_app h h3⟩
theorem sum_one (t x : Int) : ∀ (s : List Int), s.Nodup → (s.map fun v => if t = v then x else 0).sum = if t ∈ s then x else 0
  | [], _ => by simp
  | v :: s, h => by
    have h1 := List.nodup_cons.1 h
    simp only [List.map_cons, List.sum_cons, sum_one t x s h1.2]
    by_cases e : t = v
    · subst e; rw [if_pos rfl, if_neg h1.1, if_pos (by simp)]; omega
    · rw [if_neg e]
      by_cases e2 : t ∈ s
      · rw [if_pos e2, if_pos (by simp [e2])]; omega
      · rw [if_neg e2, if_neg (by simp [e, e2])]; omega
/-- What goes out of nodes, without what comes in. -/
def outIn (s : List Int) (ps : List (Arc × Int)) : Int := (ps.map fun p => (if p.1.fr ∈ s then p.2 else 0) - (if p.1.to ∈ s then p.2 else 0)).sum
theorem sum_sub (f g : Int → Int) : ∀ s : List Int, (s.map fun v => f v - g v).sum = (s.map f).sum - (s.map g).sum
  | [] => by simp
  | v :: s => by simp only [List.map_cons, List.sum_cons, sum_sub f g s]; omega
theorem sum_add (f g : Int → Int) : ∀ s : List Int, (s.map fun v => f v + g v).sum = (s.map f).sum + (s.map g).sum
  | [] => by simp
  | v :: s => by simp only [List.map_cons, List.sum_cons, sum_add f g s]; omega
theorem sum_ex {s : List Int} (hs : s.Nodup) : ∀ ps : List (Arc × Int), (s.map (exZ ps)).sum = - outIn s ps
  | [] => by
    have : ∀ s : List Int, (s.map (exZ [])).sum = 0 := by
      intro s
      induction s with
      | nil => rfl
      | cons v s ih => simp only [List.map_cons, List.sum_cons, ih]; simp [exZ]
    rw [this]; simp [outIn]
  | p :: ps => by
    have ih := sum_ex hs ps
    have e : (s.map (exZ (p :: ps))) = s.map fun v => ((if p.1.to = v then p.2 else 0) - (if p.1.fr = v then p.2 else 0)) + exZ ps v := by
      refine List.map_congr_left fun v _ => ?_
      simp only [exZ, List.map_cons, List.sum_cons]
    rw [e, sum_add, sum_sub, sum_one _ _ s hs, sum_one _ _ s hs, ih]
    simp only [outIn, List.map_cons, List.sum_cons]
    omega
theorem sum_zero (g : Int → Int) : ∀ s : List Int, (∀ v ∈ s, g v = 0) → (s.map g).sum = 0
  | [], _ => by simp
  | v :: s, h => by simp only [List.map_cons, List.sum_cons, sum_zero g s fun w hw => h w (by simp [hw]), h v (by simp)]; omega
theorem sum_single (g : Int → Int) (a : Int) : ∀ s : List Int, s.Nodup → a ∈ s → (∀ v ∈ s, v ≠ a → g v = 0) → (s.map g).sum = g a
  | [], _, h, _ => by simp at h
  | v :: s, hn, ha, h => by
    have h1 := List.nodup_cons.1 hn
    simp only [List.map_cons, List.sum_cons]
    by_cases e : v = a
    · subst e
      rw [sum_zero g s fun w hw => h w (by simp [hw]) (fun e => h1.1 (e ▸ hw))]; omega
    · have ha' : a ∈ s := (List.mem_cons.1 ha).resolve_left (fun h => e h.symm)
      rw [sum_single g a s h1.2 ha' fun w hw => h w (by simp [hw]), h v (by simp) e]; omega
theorem rise_nodup {s : List Int} (h : s.Pairwise (· < ·)) : s.Nodup := h.imp fun h => by omega
theorem cut_src {N : Net} {f : List Int} (hf : IsFlow N f) {s : List Int} (hs : IsCut N s) : exZ (N.arcs.zip f) N.src = - outIn s (N.arcs.zip f) := by
  rw [← sum_ex (rise_nodup hs.rise), sum_single _ N.src s (rise_nodup hs.rise) hs.src fun v hv hne => hf.kept v (hs.rng v hv) hne fun e => hs.snk (e ▸ hv)]
/-- All nodes but the sink. -/
def allBut (n : Nat) (z : Int) : List Int := ((List.range (n + 1)).map fun (v : Nat) => (v : Int)).filter fun v => decide (1 ≤ v ∧ v ≠ z)
theorem mem_allBut {n : Nat} {z x : Int} : x ∈ allBut n z ↔ 1 ≤ x ∧ x ≤ n ∧ x ≠ z := by
  unfold allBut
  simp only [List.mem_filter, List.mem_map, List.mem_range, decide_eq_true_eq]
  constructor
  · rintro ⟨⟨v, hv, rfl⟩, h1, h2⟩; exact ⟨h1, by omega, h2⟩
  · rintro ⟨h1, h2, h3⟩; exact ⟨⟨x.toNat, by omega, by omega⟩, h1, h3⟩
/-- What all but the sink leads out is what the sink is left. -/
theorem out_snk {N : Net} (hR : N.Right) (n : Nat) (hn : N.nodes = n) (s : List Int) (hs : ∀ x : Int, x ∈ s ↔ 1 ≤ x ∧ x ≤ n ∧ x ≠ N.snk) : ∀ ps : List (Arc × Int), (∀ p ∈ ps, p.1 ∈ N.arcs) → outIn s ps = exZ ps N.snk
  | [], _ => by simp [outIn, exZ]
  | p :: ps, h => by
    have ih := out_snk hR n hn s hs ps fun q hq => h q (by simp [hq])
    have h1 := hR.arc p.1 (h p (by simp))
    have e1 : p.1.fr ∈ s ↔ p.1.fr ≠ N.snk := by rw [hs]; omega
    have e2 : p.1.to ∈ s ↔ p.1.to ≠ N.snk := by rw [hs]; omega
    have e3 : N.snk ∉ s := by rw [hs]; omega
    simp only [outIn, exZ, List.map_cons, List.sum_cons] at ih ⊢
    rw [ih]
    by_cases a1 : p.1.fr = N.snk <;> by_cases a2 : p.1.to = N.snk <;> simp [e1, e2, e3, a1, a2] <;> omega
theorem allBut_nodup (n : Nat) (z : Int) : (allBut n z).Nodup := by
  unfold allBut
  have h : ((List.range (n + 1)).map fun (v : Nat) => (v : Int)).Nodup := by
    rw [List.nodup_iff_pairwise_ne, List.pairwise_map]
    exact List.nodup_range.imp fun h e => h (by omega)
  exact List.Pairwise.filter _ h
/-- What crosses a cut, without what comes back, is what a flow is worth. -/
theorem value_cut {N : Net} (hR : N.Right) {f : List Int} (hf : IsFlow N f) {s : List Int} (hs : IsCut N s) : exZ (N.arcs.zip f) N.snk = outIn s (N.arcs.zip f) := by
  have hnn := hR.nodes
  have hsr := hR.src
  have hd := hR.diff
  obtain ⟨n, hn⟩ : ∃ n : Nat, N.nodes = n := ⟨N.nodes.toNat, by omega⟩
  have h1 := out_snk hR n hn (allBut n N.snk) (fun x => mem_allBut) (N.arcs.zip f) fun p hp => (List.of_mem_zip hp).1
  have h2 := sum_ex (allBut_nodup n N.snk) (N.arcs.zip f)
  rw [sum_single _ N.src _ (allBut_nodup n N.snk) (mem_allBut.2 ⟨by omega, by omega, hd⟩) fun v hv hne => by
    have := mem_allBut.1 hv
    exact hf.kept v (by omega) hne this.2.2, cut_src hf hs, h1] at h2
  omega
/-- An amount more on each arc of a walk. -/
def addW (m : Int) : List Nat → List Int → List Int
  | [], f => f
  | i :: W, f => addW m W (f.set i (f.getD i 0 + m))
theorem addW_length (m : Int) : ∀ (W : List Nat) (f : List Int), (addW m W f).length = f.length
  | [], _ => rfl
  | i :: W, f => by rw [addW, addW_length m W]; simp
theorem addW_ex {N : Net} {z m v : Int} : ∀ (W : List Nat) (a : Int) (f : List Int), f.length = N.arcs.length → isWalk N a W z → exZ (N.arcs.zip (addW m W f)) v = exZ (N.arcs.zip f) v + ((if z = v then m else 0) - (if a = v then m else 0))
  | [], a, f, _, h => by
    have h' : a = z := h
    rw [addW, h']; omega
  | i :: W, a, f, hl, ⟨r, h1, h2, h3⟩ => by
    have hi : i < N.arcs.length := (List.getElem?_eq_some_iff.1 h1).1
    have hx : f[i]? = some (f.getD i 0) := by rw [List.getD_eq_getElem?_getD, List.getElem?_eq_getElem (by omega)]; rfl
    rw [addW, addW_ex W r.to _ (by simp [hl]) h3, exZ_set N.arcs f i r _ m v h1 hx, h2]
    omega
theorem addW_get (m : Int) : ∀ (W : List Nat) (f : List Int) (j : Nat), W.Nodup → (∀ i ∈ W, i < f.length) → (addW m W f)[j]? = if j ∈ W then some (f.getD j 0 + m) else f[j]?
  | [], f, j, _, _ => by simp [addW]
  | i :: W, f, j, hn, hi => by
    have h1 := List.nodup_cons.1 hn
    rw [addW, addW_get m W _ j h1.2 (fun k hk => by simp; exact hi k (by simp [hk]))]
    by_cases e : j = i
    · subst e
      rw [if_neg h1.1, if_pos (by simp), List.getElem?_set_self (hi j (by simp))]
    · by_cases e2 : j ∈ W
      · rw [if_pos e2, if_pos (by simp [e2])]
        simp only [List.getD_eq_getElem?_getD]
        rw [List.getElem?_set_ne (fun h => e h.symm)]
      · rw [if_neg e2, if_neg (by simp [e, e2]), List.getElem?_set_ne (fun h => e h.symm)]
theorem addW_ranged {N : Net} {f : List Int} {W : List Nat} {m : Int} (h : Ranged N f) (hn : W.Nodup) (hm : 0 ≤ m) (hi : ∀ i ∈ W, ∃ r : Arc, N.arcs[i]? = some r ∧ f.getD i 0 + m ≤ r.cap) : Ranged N (addW m W f) := by
  refine ⟨by rw [addW_length]; exact h.len, fun p hp => ?_⟩
  obtain ⟨j, hj, hpj⟩ := List.mem_iff_getElem.1 hp
  have hz : (N.arcs.zip (addW m W f))[j]? = some p := by rw [List.getElem?_eq_getElem hj, hpj]
  obtain ⟨h1, h2⟩ := List.getElem?_zip_eq_some.1 hz
  have hlt : j < f.length := by have := (List.getElem?_eq_some_iff.1 h1).1; have := h.len; omega
  have hfj : f[j]? = some (f.getD j 0) := by rw [List.getD_eq_getElem?_getD, List.getElem?_eq_getElem hlt]; rfl
  have hold := h.all (p.1, f.getD j 0) (List.mem_of_getElem? (List.getElem?_zip_eq_some.2 ⟨h1, hfj⟩))
  simp only at hold
  rw [addW_get m W f j hn (fun i hi' => by obtain ⟨r, hr, _⟩ := hi i hi'; have := (List.getElem?_eq_some_iff.1 hr).1; have := h.len; omega)] at h2
  split at h2
  · rename_i hjW
    obtain ⟨r, hr, hc⟩ := hi j hjW
    rw [h1] at hr
    simp only [Option.some.injEq] at hr h2
    rw [← h2, hr]
    rw [hr] at hold
    omega
  · rw [hfj] at h2
    simp only [Option.some.injEq] at h2
    rw [← h2]; exact hold
theorem addW_flow {N : Net} {f : List Int} {W : List Nat} {m : Int} (h : IsFlow N f) (hw : isWalk N N.src W N.snk) (hn : W.Nodup) (hm : 0 ≤ m) (hi : ∀ i ∈ W, ∃ r : Arc, N.arcs[i]? = some r ∧ f.getD i 0 + m ≤ r.cap) : IsFlow N (addW m W f) :=
  ⟨addW_ranged h.toRanged hn hm hi, fun v hv h1 h2 => by rw [addW_ex W N.src f h.len hw, h.kept v hv h1 h2, if_neg (fun e => h2 e.symm), if_neg (fun e => h1 e.symm)]; rfl⟩
theorem le_sum_mem : ∀ {l : List Int}, (∀ x ∈ l, 0 ≤ x) → ∀ {x}, x ∈ l → x ≤ l.sum
  | [], _, _, h => by cases h
  | y :: l, h, x, hx => by
    have h0 : 0 ≤ l.sum := by
      clear hx
      have h' : ∀ x ∈ l, 0 ≤ x := fun x hx => h x (by simp [hx])
      clear h
      induction l with
      | nil => simp
      | cons z l ih =>
        have := h' z (by simp)
        have := ih (fun x hx => h' x (by simp [hx]))
        rw [List.sum_cons]; omega
    rw [List.sum_cons]
    rcases List.mem_cons.1 hx with rfl | hx
    · omega
    · have := h y (by simp)
      have := le_sum_mem (fun x hx => h x (by simp [hx])) hx
      omega
theorem Net.Right.cap {N : Net} (h : N.Right) {a : Arc} (ha : a ∈ N.arcs) : a.cap ≤ 4611686018427387903 :=
  Int.le_trans (le_sum_mem (l := N.arcs.map (·.cap)) (fun x hx => by obtain ⟨b, hb, rfl⟩ := List.mem_map.1 hx; exact (h.arc b hb).2.2) (List.mem_map.2 ⟨a, ha, rfl⟩)) h.sum
theorem IsFlow.inB {N : Net} (hR : N.Right) {f : List Int} (hf : Ranged N f) : ∀ x ∈ f, inB x := by
  intro x hx
  obtain ⟨j, hj, rfl⟩ := List.mem_iff_getElem.1 hx
  have hl := hf.len
  have ha : N.arcs[j]? = some (N.arcs[j]'(by omega)) := List.getElem?_eq_getElem (by omega)
  have h2 := hf.all (N.arcs[j]'(by omega), f[j]) (List.mem_of_getElem? (List.getElem?_zip_eq_some.2 ⟨ha, List.getElem?_eq_getElem hj⟩))
  have h3 := hR.cap (List.mem_of_getElem? ha)
  simp only at h2
  unfold Go.Proofs.Ytcgcimnjknadjaa.inB
  omega
theorem zeroFlow (N : Net) (hR : N.Right) : IsFlow N (List.replicate N.arcs.length 0) := by
  have hz : ∀ (l : List Arc) (v : Int), exZ (l.zip (List.replicate l.length 0)) v = 0 := by
    intro l v
    induction l with
    | nil => simp [exZ]
    | cons a l ih =>
      simp only [exZ] at ih
      simp only [exZ, List.length_cons, List.replicate_succ, List.zip_cons_cons, List.map_cons, List.sum_cons, ih]
      split <;> split <;> rfl
  refine ⟨⟨by simp, fun p hp => ?_⟩, fun v _ _ _ => hz _ _⟩
  obtain ⟨h1, h2⟩ := List.of_mem_zip hp
  have := (hR.arc p.1 h1).2.2
  have := List.eq_of_mem_replicate h2
  omega
end Go.Proofs.Ytcgcimnjknadjaa
