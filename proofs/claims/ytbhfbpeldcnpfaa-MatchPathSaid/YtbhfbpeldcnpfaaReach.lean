
/- Where one comes, by tracks that have room. -/
import Derived.Test.YtbhfbpeldcnpfaaResid
namespace Go.Proofs.Ytbhfbpeldcnpfaa
open Go.RowKit
/-- Where one comes from the source. -/
inductive Rch (N : Net) (rm : List Int) (least : Int) : Int → Prop
  | src : Rch N rm least N.src
  | step (u : Int) (r : Nat) : Rch N rm least u → r < rm.length → (endsZ N r).1 = u → least ≤ rm.getD r 0 → Rch N rm least (endsZ N r).2
theorem endsZ_in {N : Net} (hR : N.Right) {r : Nat} (hr : r < 2 * N.arcs.length) : (1 ≤ (endsZ N r).1 ∧ (endsZ N r).1 ≤ N.nodes) ∧ (1 ≤ (endsZ N r).2 ∧ (endsZ N r).2 ≤ N.nodes) := by
  obtain ⟨a, ha⟩ : ∃ a, N.arcs[r / 2]? = some a := ⟨N.arcs[r / 2]'(by omega), List.getElem?_eq_getElem (by omega)⟩
  have h := hR.arc a (List.mem_of_getElem? ha)
  unfold endsZ; rw [ha]
  unfold endsOf; simp only
  split <;> exact ⟨by omega, by omega⟩
/-- The tracks of a node, of the first k. -/
def tr (N : Net) (k : Nat) (v : Nat) : List Int := ((List.range k).filter fun (r : Nat) => decide ((endsZ N r).1 = (v : Int))).map fun (r : Nat) => (r : Int)
theorem tr_succ (N : Net) (k v : Nat) : tr N (k + 1) v = tr N k v ++ (if (endsZ N k).1 = (v : Int) then [(k : Int)] else []) := by
  unfold tr
  rw [List.range_succ, List.filter_append, List.map_append]
  congr 1
  by_cases h : (endsZ N k).1 = (v : Int) <;> simp [h]
theorem tr_length (N : Net) (k v : Nat) : (tr N k v).length ≤ k := by
  unfold tr
  rw [List.length_map]
  exact Nat.le_trans (List.length_filter_le _ _) (by simp)
theorem mem_tr {N : Net} {k v : Nat} {x : Int} : x ∈ tr N k v ↔ ∃ r : Nat, r < k ∧ (endsZ N r).1 = (v : Int) ∧ x = r := by
  unfold tr
  simp only [List.mem_map, List.mem_filter, List.mem_range, decide_eq_true_eq]
  constructor
  · rintro ⟨r, ⟨h1, h2⟩, rfl⟩; exact ⟨r, h1, h2, rfl⟩
  · rintro ⟨r, h1, h2, rfl⟩; exact ⟨r, ⟨h1, h2⟩, rfl⟩
structure DS where
  met : List Bool
  Aw : Option Addr
  cw : Nat
  wait : List Int
  pos : List Nat
  vals : List Value
/-- A track that leads nowhere new. -/
def OKt (N : Net) (rm : List Int) (least : Int) (met : List Bool) (r : Int) : Prop := rm.getD r.toNat 0 < least ∨ ∃ t : Nat, (endsZ N r.toNat).2 = t ∧ met[t]? = some true
structure DInv (N : Net) (rm : List Int) (least : Int) (rows : List Row) (n s0 : Nat) (gv : Nat → Nat) (s : DS) : Prop where
  ml : s.met.length = n + 1
  vl : s.vals.length = n + 1
  pl : s.pos.length = n + 1
  sound : ∀ v : Nat, s.met[v]? = some true → v ≤ n ∧ Rch N rm least v
  src : s.met[s0]? = some true
  wait : ∀ x ∈ s.wait, ∃ v : Nat, x = v ∧ v ≤ n ∧ s.met[v]? = some true
  done : ∀ (v : Nat) (row : Row) (q : Nat), rows[v]? = some row → s.pos[v]? = some q → q ≤ row.l.length ∧ ∀ (j : Nat) (r : Int), j < q → row.l[j]? = some r → OKt N rm least s.met r
  full : ∀ v : Nat, s.met[v]? = some true → (v : Int) ∉ s.wait → ∀ row, rows[v]? = some row → ∀ r ∈ row.l, OKt N rm least s.met r
  wl : s.wait.length + s.met.count false ≤ n + 1
  val : ∀ (v : Nat) (row : Row) (q : Nat), rows[v]? = some row → s.pos[v]? = some q → ∃ A' c', s.vals[v]? = some (.slice A' (row.l.length - q) c') ∧ row.l.length - q ≤ c' ∧ (0 < row.l.length - q → A' = some ⟨gv v, q, none⟩)
theorem set_true_get {l : List Bool} {t v : Nat} (h : l[v]? = some true) : (l.set t true)[v]? = some true := by
  by_cases e : t = v
  · subst e
    rw [List.getElem?_set_self (List.getElem?_eq_some_iff.1 h).1]
  · rw [List.getElem?_set_ne e]; exact h
theorem OKt.mono {N : Net} {rm : List Int} {least : Int} {met : List Bool} {r : Int} (t : Nat) (h : OKt N rm least met r) : OKt N rm least (met.set t true) r :=
  h.imp id fun ⟨u, h1, h2⟩ => ⟨u, h1, set_true_get h2⟩
theorem count_set : ∀ (l : List Bool) (t : Nat), l[t]? = some false → (l.set t true).count false + 1 = l.count false
  | [], t, h => by simp at h
  | b :: l, 0, h => by simp at h; subst h; simp
  | b :: l, t + 1, h => by
    have := count_set l t (by simpa using h)
    simp only [List.set_cons_succ, List.count_cons]
    omega
theorem DInv.push {N : Net} {rm : List Int} {least : Int} {rows : List Row} {n s0 : Nat} {gv : Nat → Nat} {s : DS} (h : DInv N rm least rows n s0 gv s) {v q i t r : Nat} {row : Row} (hv : s.met[v]? = some true) (hrow : rows[v]? = some row) 
    (hall : ∀ (j : Nat) (r : Int), j < q + i → row.l[j]? = some r → OKt N rm least s.met r) (hr : row.l[q + i]? = some (r : Int)) (hu : (endsZ N r).1 = (v : Int)) (ht : (endsZ N r).2 = (t : Int)) (htn : t ≤ n) (hrm : r < rm.length) (hge : least ≤ rm.getD r 0) (hmf : s.met[t]? = some false)
    {A' : Option Addr} {c' : Nat} (hc : row.l.length - (q + i + 1) ≤ c') (hA : 0 < row.l.length - (q + i + 1) → A' = some ⟨gv v, q + i + 1, none⟩) (Aw : Option Addr) (cw : Nat) :
    DInv N rm least rows n s0 gv ⟨s.met.set t true, Aw, cw, s.wait ++ [(t : Int)], s.pos.set v (q + i + 1), s.vals.set v (.slice A' (row.l.length - (q + i + 1)) c')⟩ := by
  have hR := (h.sound v hv).2
  have hvn := (h.sound v hv).1
  have htl : t < s.met.length := by rw [h.ml]; omega
  have hnew : OKt N rm least (s.met.set t true) (r : Int) := .inr ⟨t, by rw [Int.toNat_natCast]; exact ht, by rw [List.getElem?_set_self htl]⟩
  have hlt : q + i < row.l.length := (List.getElem?_eq_some_iff.1 hr).1
  refine ⟨by simp [h.ml], by simp [h.vl], by simp [h.pl], fun u hu' => ?_, set_true_get h.src, fun x hx => ?_, fun u row' q' hr' hq' => ?_, fun u hu' hnot row' hr' => ?_, by simp only [List.length_append, List.length_singleton]; have := count_set s.met t hmf; have := h.wl; omega, fun u row' q' hr' hq' => ?_⟩
  · simp only at hu'
    by_cases e : t = u
    · subst e
      have := Rch.step (N := N) (rm := rm) (least := least) v r hR hrm hu hge
      rw [ht] at this
      exact ⟨htn, this⟩
    · rw [List.getElem?_set_ne e] at hu'; exact h.sound u hu'
  · rcases List.mem_append.1 hx with hx | hx
    · obtain ⟨u, h1, h2, h3⟩ := h.wait x hx
      exact ⟨u, h1, h2, set_true_get h3⟩
    · exact ⟨t, List.mem_singleton.1 hx, htn, by simp only; rw [List.getElem?_set_self htl]⟩
  · simp only at hq'
    by_cases e : v = u
    · subst e
      rw [List.getElem?_set_self (by rw [h.pl]; omega)] at hq'
      simp only [Option.some.injEq] at hq'
      subst hq'
      rw [hrow] at hr'
      simp only [Option.some.injEq] at hr'
      subst hr'
      refine ⟨by omega, fun j x hj hx => ?_⟩
      by_cases e2 : j = q + i
      · subst e2; rw [hr] at hx; simp only [Option.some.injEq] at hx; subst hx; exact hnew
      · exact (hall j x (by omega) hx).mono t
    · rw [List.getElem?_set_ne e] at hq'
      obtain ⟨h1, h2⟩ := h.done u row' q' hr' hq'
      exact ⟨h1, fun j x hj hx => (h2 j x hj hx).mono t⟩
  · simp only at hu' hnot
    have hne : t ≠ u := fun e => hnot (by rw [← e]; simp)
    rw [List.getElem?_set_ne hne] at hu'
    intro x hx
    exact (h.full u hu' (fun hm => hnot (List.mem_append.2 (.inl hm))) row' hr' x hx).mono t
  · simp only at hq' ⊢
    by_cases e : v = u
    · subst e
      rw [List.getElem?_set_self (by rw [h.pl]; omega)] at hq'
      simp only [Option.some.injEq] at hq'
      subst hq'
      rw [hrow] at hr'
      simp only [Option.some.injEq] at hr'
      subst hr'
      exact ⟨A', c', by rw [List.getElem?_set_self (by rw [h.vl]; omega)], hc, hA⟩
    · rw [List.getElem?_set_ne e] at hq'
      rw [List.getElem?_set_ne e]
      exact h.val u row' q' hr' hq'
theorem DInv.pop {N : Net} {rm : List Int} {least : Int} {rows : List Row} {n s0 : Nat} {gv : Nat → Nat} {s : DS} (h : DInv N rm least rows n s0 gv s) {v : Nat} {w : List Int} {row : Row} (hw : s.wait = w ++ [(v : Int)]) (hrow : rows[v]? = some row)
    (hall : ∀ r ∈ row.l, OKt N rm least s.met r) (Aw : Option Addr) (cw : Nat) : DInv N rm least rows n s0 gv ⟨s.met, Aw, cw, w, s.pos, s.vals⟩ := by
  refine ⟨h.ml, h.vl, h.pl, h.sound, h.src, fun x hx => h.wait x (by rw [hw]; simp [hx]), h.done, fun u hu hnot row' hr' => ?_, by have := h.wl; rw [hw, List.length_append] at this; simp only; omega, h.val⟩
  by_cases e : u = v
  · subst e; rw [hrow] at hr'; simp only [Option.some.injEq] at hr'; subst hr'; exact hall
  · exact h.full u hu (by rw [hw]; intro hm; rcases List.mem_append.1 hm with hm | hm; · exact hnot hm
                          · have := List.mem_singleton.1 hm; omega) row' hr'
theorem DInv.final {N : Net} {rm : List Int} {least : Int} {rows : List Row} {n s0 : Nat} {gv : Nat → Nat} {s : DS} (h : DInv N rm least rows n s0 gv s) (hw : s.wait = []) (hs : N.src = s0) (hrows : rows.length = n + 1) (htr : ∀ (v : Nat) (r : Row), rows[v]? = some r → r.l = tr N rm.length v) (hpos : ∀ r, r < rm.length → ∃ k : Nat, (endsZ N r).1 = k)
    (v : Nat) : s.met[v]? = some true ↔ v ≤ n ∧ Rch N rm least v := by
  refine ⟨h.sound v, fun ⟨_, hr⟩ => ?_⟩
  have key : ∀ x : Int, Rch N rm least x → ∀ v : Nat, x = v → s.met[v]? = some true := by
    intro x hx
    induction hx with
    | src => intro v e; rw [hs] at e; have : s0 = v := by omega
             subst this; exact h.src
    | step u r _ hlt hu hge ih =>
      intro v e
      obtain ⟨k, hk⟩ := hpos r hlt
      rw [hu] at hk
      have hm := ih k hk
      have hkn := (h.sound k hm).1
      obtain ⟨row, hrow⟩ : ∃ row, rows[k]? = some row := ⟨rows[k]'(by omega), List.getElem?_eq_getElem (by omega)⟩
      have hmem : (r : Int) ∈ row.l := by rw [htr k row hrow]; exact mem_tr.2 ⟨r, hlt, by rw [hu, hk], rfl⟩
      rcases h.full k hm (by rw [hw]; simp) row hrow _ hmem with h1 | ⟨t, h1, h2⟩
      · rw [Int.toNat_natCast] at h1; omega
      · rw [Int.toNat_natCast] at h1
        have : t = v := by omega
        rw [← this]; exact h2
  exact key v hr v rfl
def reachR (N : Net) (f : List Int) (least : Int) (n : Nat) (v : Value) (H' : Heap) : Prop :=
  (IsFlow N f ∧ 1 ≤ least ∧ ∃ (l : List Bool) (g : Nat), l.length = n + 1 ∧ (∀ v : Nat, l[v]? = some true ↔ v ≤ n ∧ Rch N (roomL (N.arcs.zip f)) least v) ∧ v = .tuple #[.slice (some ⟨g, 0, none⟩) (n + 1) (n + 1), .int .i64 0] ∧
    H' = [.own (.slice (some ⟨g, 0, none⟩) (n + 1) (n + 1)) 4 1 (n + 1) (bools l)]) ∨
  (¬ IsFlow N f ∧ v = .tuple #[.slice none 0 0, .int .i64 (flowZ N f)] ∧ H' = []) ∨ (IsFlow N f ∧ least < 1 ∧ v = .tuple #[.slice none 0 0, .int .i64 3] ∧ H' = [])
set_option maxHeartbeats 1000000 in
theorem reach_fn (N : Net) (hN : N.Fits) (hR : N.Right) (A : Option Addr) (c b o : Nat) (hA : N.arcs ≠ [] → A = some ⟨b, o, none⟩) (f : List Int) (F : Option Addr) (cf bf of : Nat) (hF : f ≠ [] → F = some ⟨bf, of, none⟩) (hf : ∀ x ∈ f, inB x) (hfl : f.length * 8 ≤ 140737488351232) (least : Int) (_hl : inB least)
    (n : Nat) (hn : N.nodes = n) : Fn 49 [netV N A c, .slice F f.length cf, .int .i64 least] [] [.seg b o (arcs N.arcs), .seg bf of (ints f)] (reachR N f least n) := by
  have hnn := hR.nodes
  have hl2 := hR.len
  refine Fn_of Try.func49 rfl rfl fun w0 => ?_
  (repeat' (first | refine J_seq ?_ | refine J_skip ?_ | refine J_yes rfl ?_ | refine J_no rfl ?_))
  refine J_region ?_
  refine JL_box (cs := netC N A c) rfl rfl rfl (fun _ => rfl) fun p => ?_
  refine JL_all [] rfl ?_
  refine J_scope ?_
  (repeat' (first | refine J_seq ?_ | refine J_skip ?_ | refine J_yes rfl ?_ | refine J_no rfl ?_))
  refine J_region ?_
  refine JL_val [] (v := netV N A c) (OpV_blk 0 rfl rfl rfl rfl) rfl ?_
  refine JL_run [] rfl ?_
  refine JL_callR [] (room_fn N hN hR A c b o hA f F cf bf of hF hf hfl) rfl rfl rfl rfl (by kernel_rfl) ⟨⟨1, _, by simp, rfl, shows_seg _ _ _, seen_seg⟩, ⟨2, _, by simp, rfl, shows_seg _ _ _, seen_seg⟩, trivial⟩ (fun _ => rfl) ?_
  rintro v H' (⟨hW, A1, c1, rfl, rfl⟩ | ⟨hW, rfl, rfl⟩)
  case inr =>
    refine ⟨rfl, ?_⟩
    refine JL_all [] rfl ?_
    (repeat' (first | refine J_seq ?_ | refine J_skip ?_ | refine J_yes rfl ?_ | refine J_no rfl ?_))
    refine J_block ?_
    (repeat' (first | refine J_seq ?_ | refine J_skip ?_ | refine J_yes rfl ?_ | refine J_no rfl ?_))
    refine J_region ?_
    refine JL_all [] rfl ?_
    refine J_dec rfl (fun h => ?_) (fun h => absurd (flowZ_zero.1 (Classical.not_not.1 h)) hW)
    (repeat' (first | refine J_seq ?_ | refine J_skip ?_ | refine J_yes rfl ?_ | refine J_no rfl ?_))
    refine J_region ?_
    refine JL_all [] rfl ?_
    refine J_drop [] (by decide) rfl (J_ret ⟨_, rfl, .inr (.inl ⟨hW, rfl, rfl⟩)⟩)
  refine ⟨rfl, ?_⟩
  refine JL_all [] rfl ?_
  (repeat' (first | refine J_seq ?_ | refine J_skip ?_ | refine J_yes rfl ?_ | refine J_no rfl ?_))
  refine J_block ?_
  (repeat' (first | refine J_seq ?_ | refine J_skip ?_ | refine J_yes rfl ?_ | refine J_no rfl ?_))
  refine J_region ?_
  refine JL_all [] rfl ?_
  refine J_dec rfl (fun h => absurd rfl h) (fun _ => ?_)
  (repeat' (first | refine J_seq ?_ | refine J_skip ?_ | refine J_yes rfl ?_ | refine J_no rfl ?_))
  refine J_region ?_
  refine JL_all [] rfl ?_
  refine J_dec rfl (fun h => ?_) (fun hle => J_skip ?_)
  · (repeat' (first | refine J_seq ?_ | refine J_skip ?_ | refine J_yes rfl ?_ | refine J_no rfl ?_))
    refine J_region ?_
    refine JL_all [] rfl ?_
    refine J_drop [] (by decide) rfl (J_ret ⟨_, rfl, .inr (.inr ⟨hW, h, rfl, rfl⟩)⟩)
  obtain ⟨rm, hrm⟩ : ∃ rm, rm = roomL (N.arcs.zip f) := ⟨_, rfl⟩
  have hrl : rm.length = 2 * N.arcs.length := by rw [hrm, roomL_length, List.length_zip, hW.len, Nat.min_self]
  rw [← hrm]
  (repeat' (first | refine J_seq ?_ | refine J_skip ?_ | refine J_yes rfl ?_ | refine J_no rfl ?_))
  refine J_region ?_
  refine JL_run [] rfl ?_
  refine JL_val [] (OpV_blk 1 rfl rfl rfl rfl) rfl ?_
  refine JL_run [] rfl ?_
  refine JL_set 36 (v' := .int .i64 ((n + 1 : Nat) : Int)) rfl (congrArg (Value.int .i64) ((w64 (n := N.nodes + 1) (by omega)).trans (by omega))) ?_
  refine JL_make (n := n + 1) (c := n + 1) rfl rfl rfl rfl rfl rfl (by omega) (by omega) (by omega) (fun _ => rfl) fun g => ?_
  refine JL_all [] rfl ?_
  (repeat' (first | refine J_seq ?_ | refine J_skip ?_ | refine J_yes rfl ?_ | refine J_no rfl ?_))
  refine J_region ?_
  refine JL_all [] rfl ?_
  refine J_block ?_
  rw [show made [Value.slice none 0 0] ((n + 1) * 1) = (List.replicate (n + 1) nilRow).map rowV by rw [made_one, Nat.mul_one, List.map_replicate]; rfl]
  refine J_fit (Fit.nils 3 (n + 1)) ?_
  refine J_loopF (σ := Nat × List Row) (fun s => [(40, .int .i64 s.1), (39, .int .i64 ((2 * N.arcs.length : Nat) : Int)), (38, .slice A1 (2 * N.arcs.length) c1), (10, .slice (some ⟨g, 0, none⟩) (n + 1) (n + 1)), (8, .slice A1 (2 * N.arcs.length) c1), (3, .pointer (some ⟨p, 0, none⟩)), (2, .int .i64 least)])
    (fun s => [.own (.slice (some ⟨g, 0, none⟩) (n + 1) (n + 1)) 23 1 (n + 1) (s.2.map rowV), .own (.slice A1 (2 * N.arcs.length) c1) 2 1 (2 * N.arcs.length) (ints rm), blk p 27 (netC N A c), .seg b o (arcs N.arcs), .seg bf of (ints f)] ++ s.2.map (rowC 3))
    (fun s => s.1 ≤ 2 * N.arcs.length ∧ s.2.length = n + 1 ∧ ∀ (v : Nat) (r : Row), s.2[v]? = some r → r.l = tr N s.1 v) (fun s => 2 * N.arcs.length - s.1)
    (0, List.replicate (n + 1) nilRow) ⟨rfl, rfl, rfl, rfl, rfl, rfl, rfl, trivial⟩ Fit.refl ⟨Nat.zero_le _, by simp, fun v r h => ?_⟩ ?_
  · rw [List.getElem?_replicate] at h
    split at h
    · simp only [Option.some.injEq] at h; subst h; rfl
    · cases h
  rintro ⟨k, rows⟩ ⟨hk, hrows, htr⟩
  simp only at hk hrows htr ⊢
  (repeat' (first | refine J_seq ?_ | refine J_skip ?_ | refine J_yes rfl ?_ | refine J_no rfl ?_))
  refine J_region ?_
  refine JL_all [] rfl ?_
  refine J_seq (J_dec rfl (fun hlt => J_skip ?_) (fun hge => J_exit ?_))
  · have hlt : k < 2 * N.arcs.length := by omega
    have he := endsZ_in hR hlt
    obtain ⟨v, hv⟩ : ∃ v : Nat, (endsZ N k).1 = v := ⟨(endsZ N k).1.toNat, by omega⟩
    have hvn : v < rows.length := by omega
    obtain ⟨row, hrow⟩ : ∃ r, rows[v]? = some r := ⟨rows[v], List.getElem?_eq_getElem hvn⟩
    have hrl' := htr v row hrow
    have hlen := tr_length N k v
    rw [← hrl'] at hlen
    refine J_seq (J_block ?_)
    (repeat' (first | refine J_seq ?_ | refine J_skip ?_ | refine J_yes rfl ?_ | refine J_no rfl ?_))
    refine J_region ?_
    refine JL_all [] rfl ?_
    (repeat' (first | refine J_seq ?_ | refine J_skip ?_ | refine J_yes rfl ?_ | refine J_no rfl ?_))
    refine J_region ?_
    refine JL_val [] (v := netV N A c) (OpV_blk 2 rfl rfl rfl rfl) rfl ?_
    refine JL_run [] rfl ?_
    refine JL_callR [] (ends_fn N A c b o hA hl2 k hlt) rfl rfl rfl rfl (by kernel_rfl) ⟨⟨3, _, by simp, rfl, shows_seg _ _ _, seen_seg⟩, trivial⟩ (fun _ => rfl) ?_
    rintro v' H' ⟨rfl, rfl⟩
    refine ⟨rfl, ?_⟩
    refine JL_all [] rfl ?_
    refine J_set 12 (v' := .int .i64 (v : Int)) rfl (congrArg (Value.int .i64) hv) ?_
    (repeat' (first | refine J_seq ?_ | refine J_skip ?_ | refine J_yes rfl ?_ | refine J_no rfl ?_))
    refine J_region ?_
    refine JL_run [] rfl ?_
    refine JL_val [] (idx1z rfl rfl rfl rfl rfl (by omega)) rfl ?_
    refine JL_val [] (OpV_own (v := rowV row) 0 rfl rfl rfl (show (rows.map rowV)[v]? = some (rowV row) by rw [List.getElem?_map, hrow]; rfl)) rfl ?_
    refine JL_run [] rfl ?_
    refine JL_lit rfl rfl rfl rfl rfl rfl rfl (fun _ => rfl) fun g2 => ?_
    show JL _ _ _ _ _ ([_, _, _, _, _, _] ++ rows.map (rowC 3))
    refine JL_fit (Fit.front (i := v) (c := rowC 3 row) (by rw [List.getElem?_map, hrow]; rfl)) ?_
    refine JL_appendS (n := row.l.length) (m := 1) (off := 0) (news := ints [(k : Int)]) 0 1 rfl rfl rfl rfl rfl rfl (by decide) rfl rfl (shows_blk g2 _ _ (0, 0)) (fun _ => rfl) rfl rfl (by omega) (by omega) (fun _ _ => rfl) fun A2 c2 => ?_
    rw [show row.l.length + 1 = (row.l ++ [(k : Int)]).length by simp, show ints row.l ++ ints [(k : Int)] = ints (row.l ++ [(k : Int)]) by simp [ints]]
    refine JL_val [] (idx1z rfl rfl rfl rfl rfl (by omega)) rfl ?_
    refine JL_store_own 2 rfl rfl rfl rfl (put_one rfl rfl rfl (by rw [List.length_map]; omega)) [] rfl ?_
    refine JL_nil ?_
    (repeat' (first | refine J_seq ?_ | refine J_skip ?_ | refine J_yes rfl ?_ | refine J_no rfl ?_))
    refine J_region ?_
    refine JL_all [] rfl ?_
    refine ⟨(k + 1, rows.set v ⟨A2, c2, row.l ++ [(k : Int)]⟩), ⟨?_, rfl, rfl, rfl, rfl, rfl, rfl, trivial⟩, ?_, ⟨by simp only; omega, by simp only [List.length_set]; omega, fun u r hu => ?_⟩, by simp only; omega⟩
    · show some (Value.int .i64 (IntKind.i64.wrap ((k : Int) + 1))) = _
      rw [w64 (by omega)]; rfl
    · simp only [List.map_set]
      refine Fit.trans (Fit.sub (List.Sublist.cons_cons _ (List.sublist_cons_self _ _))) (Fit.back (A := [_, _, _, _, _]) (by rw [List.length_map]; exact hvn))
    · rw [tr_succ]
      by_cases huv : v = u
      · subst huv
        rw [List.getElem?_set_self hvn] at hu
        simp only [Option.some.injEq] at hu
        rw [← hu, if_pos hv, hrl']
      · rw [List.getElem?_set_ne huv] at hu
        rw [if_neg (by omega), List.append_nil]
        exact htr u r hu
  · have hk' : k = 2 * N.arcs.length := by omega
    subst hk'
    have hrowA0 : ∀ w, Has w0 [] w ([.own (.slice (some ⟨g, 0, none⟩) (n + 1) (n + 1)) 23 1 (n + 1) (rows.map rowV), .own (.slice A1 (2 * N.arcs.length) c1) 2 1 (2 * N.arcs.length) (ints rm), blk p 27 (netC N A c), .seg b o (arcs N.arcs), .seg bf of (ints f)] ++ rows.map (rowC 3)) →
        ∀ v : Nat, ∃ gv : Nat, ∀ row, rows[v]? = some row → row.l.length ≤ row.c ∧ (ints row.l ≠ [] → row.A = some ⟨gv, 0, none⟩) := by
      intro w hw v
      cases hv : rows[v]? with
      | none => exact ⟨0, fun row h => by cases h⟩
      | some row =>
        obtain ⟨_, h2, h3, h4⟩ := own_is (X := ⟨w0, [], ⟨0, []⟩⟩) (v + 5) (show _ = some (rowC 3 row) by show (rows.map (rowC 3))[v]? = _; rw [List.getElem?_map, hv]; rfl) w hw
        obtain ⟨gv, hgv⟩ := own_at h3 h4
        exact ⟨gv, fun row' h => by simp only [Option.some.injEq] at h; subst h; exact ⟨h2, hgv⟩⟩
    refine J_know hrowA0 fun hrowA => ?_
    obtain ⟨gv, hgv⟩ : ∃ gv : Nat → Nat, ∀ (v : Nat) (row : Row), rows[v]? = some row → row.l.length ≤ row.c ∧ (ints row.l ≠ [] → row.A = some ⟨gv v, 0, none⟩) := ⟨fun v => Classical.choose (hrowA v), fun v => Classical.choose_spec (hrowA v)⟩
    refine J_know (own_is 1 rfl) fun ⟨_, _, hA1, _⟩ => ?_
    clear hrowA hrowA0
    have hsrc := hR.src
    obtain ⟨s0, hs0⟩ : ∃ s : Nat, N.src = s := ⟨N.src.toNat, by omega⟩
    (repeat' (first | refine J_seq ?_ | refine J_skip ?_ | refine J_yes rfl ?_ | refine J_no rfl ?_))
    refine J_region ?_
    refine JL_run [] rfl ?_
    refine JL_val [] (OpV_blk 2 rfl rfl rfl rfl) rfl ?_
    refine JL_run [] rfl ?_
    refine JL_set 62 (v' := .int .i64 ((n + 1 : Nat) : Int)) rfl (congrArg (Value.int .i64) ((w64 (n := N.nodes + 1) (by omega)).trans (by omega))) ?_
    refine JL_make (n := n + 1) (c := n + 1) rfl rfl rfl rfl rfl rfl (by omega) (by omega) (by omega) (fun _ => rfl) fun gm => ?_
    refine JL_all [] rfl ?_
    rw [made_bools]
    (repeat' (first | refine J_seq ?_ | refine J_skip ?_ | refine J_yes rfl ?_ | refine J_no rfl ?_))
    refine J_region ?_
    refine JL_run [] rfl ?_
    refine JL_val [] (OpV_blk 3 rfl rfl rfl rfl) rfl ?_
    refine JL_set 66 (v' := .int .i64 (s0 : Int)) rfl (congrArg (Value.int .i64) hs0) ?_
    refine JL_val [] (idx1z rfl rfl rfl rfl rfl (by omega)) rfl ?_
    refine JL_store_own 0 rfl rfl rfl rfl (put_bools rfl (by simp; omega)) [] rfl ?_
    refine JL_nil ?_
    (repeat' (first | refine J_seq ?_ | refine J_skip ?_ | refine J_yes rfl ?_ | refine J_no rfl ?_))
    refine J_region ?_
    refine JL_run [] rfl ?_
    refine JL_val [] (OpV_blk 3 rfl rfl rfl rfl) rfl ?_
    refine JL_set 69 (v' := .int .i64 (s0 : Int)) rfl (congrArg (Value.int .i64) hs0) ?_
    refine JL_lit rfl rfl rfl rfl rfl rfl rfl (fun _ => rfl) fun gw => ?_
    refine JL_all [] rfl ?_
    (repeat' (first | refine J_seq ?_ | refine J_skip ?_ | refine J_yes rfl ?_ | refine J_no rfl ?_))
    refine J_label ?_
    refine J_fit (fun w h => h.blkOwn (sz := 1) (n := 1) rfl (by decide)) ?_
    (repeat' (first | refine J_seq ?_ | refine J_skip ?_ | refine J_yes rfl ?_ | refine J_no rfl ?_))
    refine J_block ?_
    have hgl : ∀ (v : Nat) (row : Row), rows[v]? = some row → row.l = tr N rm.length v := fun v row h => by rw [hrl]; exact htr v row h
    refine J_loopF (σ := DS) (fun s => [(15, .slice s.Aw s.wait.length s.cw), (14, .slice (some ⟨gm, 0, none⟩) (n + 1) (n + 1)), (10, .slice (some ⟨g, 0, none⟩) (n + 1) (n + 1)), (8, .slice A1 (2 * N.arcs.length) c1), (3, .pointer (some ⟨p, 0, none⟩)), (2, .int .i64 least)])
      (fun s => [.own (.slice s.Aw s.wait.length s.cw) 3 1 s.wait.length (ints s.wait), .own (.slice (some ⟨gm, 0, none⟩) (n + 1) (n + 1)) 4 1 (n + 1) (bools s.met), .own (.slice (some ⟨g, 0, none⟩) (n + 1) (n + 1)) 23 1 (n + 1) s.vals,
        .own (.slice A1 (2 * N.arcs.length) c1) 2 1 (2 * N.arcs.length) (ints rm), blk p 27 (netC N A c), .seg b o (arcs N.arcs), .seg bf of (ints f)] ++ rows.map (rowC 3))
      (fun s => DInv N rm least rows n s0 gv s) (fun s => 2 * s.met.count false + s.wait.length)
      ⟨(List.replicate (n + 1) false).set s0 true, some ⟨gw, 0, none⟩, 1, [(s0 : Int)], List.replicate (n + 1) 0, rows.map rowV⟩ ⟨rfl, rfl, rfl, rfl, rfl, rfl, trivial⟩ Fit.refl ?_ ?_
    · have hget : ∀ v : Nat, ((List.replicate (n + 1) false).set s0 true)[v]? = some true → v = s0 := by
        intro v hv
        by_cases e : s0 = v
        · exact e.symm
        · rw [List.getElem?_set_ne e, List.getElem?_replicate] at hv
          split at hv <;> simp at hv
      have hs0m : ((List.replicate (n + 1) false).set s0 true)[s0]? = some true := List.getElem?_set_self (by simp; omega)
      refine ⟨by simp, by simp [hrows], by simp, fun v hv => ?_, hs0m, fun x hx => ⟨s0, List.mem_singleton.1 hx, by omega, hs0m⟩, fun v row q hr hq => ?_, fun v hv hnot row hr => ?_, ?_, fun v row q hr hq => ?_⟩
      · obtain rfl := hget v hv
        exact ⟨by omega, hs0 ▸ Rch.src⟩
      · have : q = 0 := by
          simp only [List.getElem?_replicate] at hq
          split at hq <;> simp at hq
          exact hq.symm
        subst this
        exact ⟨Nat.zero_le _, fun j r hj => absurd hj (by omega)⟩
      · obtain rfl := hget v hv
        exact absurd (by simp) hnot
      · have := count_set (List.replicate (n + 1) false) s0 (by rw [List.getElem?_replicate, if_pos (by omega)])
        have h2 : (List.replicate (n + 1) false).count false = n + 1 := by simp
        simp only [List.length_singleton]
        omega
      · have : q = 0 := by
          simp only [List.getElem?_replicate] at hq
          split at hq <;> simp at hq
          exact hq.symm
        subst this
        refine ⟨row.A, row.c, by simp only [List.getElem?_map, hr]; rfl, by have := (hgv v row hr).1; omega, fun hp => (hgv v row hr).2 (fun h0 => ?_)⟩
        have : row.l.length = 0 := by rw [← ints_length, h0]; rfl
        omega
    intro s hI
    (repeat' (first | refine J_seq ?_ | refine J_skip ?_ | refine J_yes rfl ?_ | refine J_no rfl ?_))
    refine J_region ?_
    refine JL_all [] rfl ?_
    refine J_dec rfl (fun hwp => J_skip ?_) (fun hwp => J_exit ?_)
    · have hwl : 0 < s.wait.length := by omega
      obtain ⟨x, hx⟩ : ∃ x, s.wait[s.wait.length - 1]? = some x := ⟨s.wait[s.wait.length - 1]'(by omega), List.getElem?_eq_getElem (by omega)⟩
      obtain ⟨v, rfl, hvn, hvm⟩ := hI.wait x (List.mem_of_getElem? hx)
      have hwsplit : s.wait = s.wait.take (s.wait.length - 1) ++ [(v : Int)] := by
        have := List.take_append_drop (s.wait.length - 1) s.wait
        have hd : s.wait.drop (s.wait.length - 1) = [(v : Int)] := by
          obtain ⟨h1, h2⟩ := List.getElem?_eq_some_iff.1 hx
          rw [List.drop_eq_getElem_cons h1, h2, List.drop_of_length_le (by omega)]
        rw [hd] at this
        exact this.symm
      obtain ⟨row, hrow⟩ : ∃ row, rows[v]? = some row := ⟨rows[v]'(by omega), List.getElem?_eq_getElem (by omega)⟩
      have hrowlen := tr_length N rm.length v
      rw [← hgl v row hrow] at hrowlen
      obtain ⟨q, hq⟩ : ∃ q, s.pos[v]? = some q := ⟨s.pos[v]'(by have := hI.pl; omega), List.getElem?_eq_getElem (by have := hI.pl; omega)⟩
      obtain ⟨A', c', hval, hcc, hAv⟩ := hI.val v row q hrow hq
      obtain ⟨hqle, hdone⟩ := hI.done v row q hrow hq
      refine J_know (own_is 0 rfl) fun ⟨_, hwc, hAw, _⟩ => ?_
      obtain ⟨gww, hAw⟩ := hAw hwl
      have hwb := hI.wl
      refine J_block ?_
      (repeat' (first | refine J_seq ?_ | refine J_skip ?_ | refine J_yes rfl ?_ | refine J_no rfl ?_))
      refine J_region ?_
      refine JL_run [] rfl ?_
      refine JL_set 77 (v' := .int .i64 ((s.wait.length - 1 : Nat) : Int)) rfl (congrArg (Value.int .i64) ((w64 (n := (s.wait.length : Int) - 1) (by omega)).trans (by omega))) ?_
      refine JL_val [] (idx1z (b := gww) (by rfl) (by rw [hAw]; rfl) rfl rfl rfl (by omega)) rfl ?_
      refine JL_val [] (OpV_load_of (b := gww) (off := 0) (i := s.wait.length - 1) (cs := ints s.wait) (v := .int .i64 (v : Int)) 0 rfl (by rw [Nat.zero_add]; rfl) rfl (shows_ownS (fun _ => hAw)) (ints_get hx)) rfl ?_
      refine JL_all [] rfl ?_
      (repeat' (first | refine J_seq ?_ | refine J_skip ?_ | refine J_yes rfl ?_ | refine J_no rfl ?_))
      refine J_region ?_
      refine JL_run [] rfl ?_
      refine JL_val [] (idx1z rfl rfl rfl rfl rfl (by omega)) rfl ?_
      refine JL_val [] (OpV_own (v := .slice A' (row.l.length - q) c') 2 rfl rfl rfl hval) rfl ?_
      refine JL_all [] rfl ?_
      refine J_block ?_
      refine J_loopF (σ := Nat) (fun i => [(85, .int .i64 i), (84, .int .i64 ((row.l.length - q : Nat) : Int)), (83, .slice A' (row.l.length - q) c'), (16, .int .i64 (v : Int)), (15, .slice s.Aw s.wait.length s.cw), (14, .slice (some ⟨gm, 0, none⟩) (n + 1) (n + 1)), (10, .slice (some ⟨g, 0, none⟩) (n + 1) (n + 1)), (8, .slice A1 (2 * N.arcs.length) c1), (3, .pointer (some ⟨p, 0, none⟩)), (2, .int .i64 least)])
        (fun _ => [.own (.slice s.Aw s.wait.length s.cw) 3 1 s.wait.length (ints s.wait), .own (.slice (some ⟨gm, 0, none⟩) (n + 1) (n + 1)) 4 1 (n + 1) (bools s.met), .own (.slice (some ⟨g, 0, none⟩) (n + 1) (n + 1)) 23 1 (n + 1) s.vals,
          .own (.slice A1 (2 * N.arcs.length) c1) 2 1 (2 * N.arcs.length) (ints rm), blk p 27 (netC N A c), .seg b o (arcs N.arcs), .seg bf of (ints f)] ++ rows.map (rowC 3))
        (fun i => i ≤ row.l.length - q ∧ ∀ (j : Nat) (r : Int), j < q + i → row.l[j]? = some r → OKt N rm least s.met r) (fun i => row.l.length - q - i)
        0 ⟨rfl, rfl, rfl, rfl, rfl, rfl, rfl, rfl, rfl, rfl, trivial⟩ Fit.refl ⟨Nat.zero_le _, fun j r hj => hdone j r (by omega)⟩ ?_
      rintro i ⟨hi, hscan⟩
      (repeat' (first | refine J_seq ?_ | refine J_skip ?_ | refine J_yes rfl ?_ | refine J_no rfl ?_))
      refine J_region ?_
      refine JL_all [] rfl ?_
      refine J_seq (J_dec rfl (fun hlt => J_skip ?_) (fun hge => J_exit ?_))
      · have hlt : i < row.l.length - q := by omega
        obtain rfl := hAv (by omega)
        obtain ⟨y, hy⟩ : ∃ y, row.l[q + i]? = some y := ⟨row.l[q + i]'(by omega), List.getElem?_eq_getElem (by omega)⟩
        have hymem := List.mem_of_getElem? hy
        rw [hgl v row hrow] at hymem
        obtain ⟨r, hr, hru, rfl⟩ := mem_tr.1 hymem
        have hr2 : r < 2 * N.arcs.length := by omega
        have hin := endsZ_in hR hr2
        obtain ⟨t, ht⟩ : ∃ t : Nat, (endsZ N r).2 = t := ⟨(endsZ N r).2.toNat, by omega⟩
        have htn : t ≤ n := by omega
        obtain ⟨x, hxr⟩ : ∃ x, rm[r]? = some x := ⟨rm[r], List.getElem?_eq_getElem hr⟩
        have hxd : rm.getD r 0 = x := by rw [List.getD_eq_getElem?_getD, hxr]; rfl
        obtain ⟨bt, hbt⟩ : ∃ bt, s.met[t]? = some bt := ⟨s.met[t]'(by have := hI.ml; omega), List.getElem?_eq_getElem (by have := hI.ml; omega)⟩
        obtain ⟨gr, rfl⟩ := hA1 (by omega)
        have hrowne : ints row.l ≠ [] := by
          intro h0
          have : row.l.length = 0 := by rw [← ints_length, h0]; rfl
          omega
        have hrA := (hgv v row hrow).2 hrowne
        refine J_seq (J_block ?_)
        (repeat' (first | refine J_seq ?_ | refine J_skip ?_ | refine J_yes rfl ?_ | refine J_no rfl ?_))
        refine J_region ?_
        refine JL_run [] rfl ?_
        refine JL_val [] (idx1 rfl rfl rfl rfl rfl hlt) rfl ?_
        refine JL_val [] (OpV_load_of (b := gv v) (off := q) (i := i) (cs := (ints row.l).drop q) (v := .int .i64 (r : Int)) (c := rowC 3 row) (v + 7) rfl rfl (show (rows.map (rowC 3))[v]? = _ by rw [List.getElem?_map, hrow]; rfl)
          (by have := shows_drop (shows_ownS (e := 3) (sz := 1) (n := row.l.length) (cap := row.c) (fun _ => hrA : ints row.l ≠ [] → row.A = some ⟨gv v, 0, none⟩)) q; rw [Nat.zero_add] at this; exact this)
          (by show ((ints row.l).drop q)[i]? = _; rw [List.getElem?_drop]; exact ints_get hy)) rfl ?_
        refine JL_all [] rfl ?_
        (repeat' (first | refine J_seq ?_ | refine J_skip ?_ | refine J_yes rfl ?_ | refine J_no rfl ?_))
        refine J_region ?_
        refine JL_val [] (v := netV N A c) (OpV_blk 4 rfl rfl rfl rfl) rfl ?_
        refine JL_run [] rfl ?_
        refine JL_callR [] (ends_fn N A c b o hA hl2 r hr2) rfl rfl rfl rfl (by kernel_rfl) ⟨⟨5, _, by simp, rfl, shows_seg _ _ _, seen_seg⟩, trivial⟩ (fun _ => rfl) ?_
        rintro v' H' ⟨rfl, rfl⟩
        refine ⟨rfl, ?_⟩
        refine JL_all [] rfl ?_
        refine J_set 20 (v' := .int .i64 (t : Int)) rfl (congrArg (Value.int .i64) ht) ?_
        (repeat' (first | refine J_seq ?_ | refine J_skip ?_ | refine J_yes rfl ?_ | refine J_no rfl ?_))
        refine J_region ?_
        refine JL_run [] rfl ?_
        refine JL_val [] (idx1z rfl rfl rfl rfl rfl (by omega)) rfl ?_
        refine JL_val [] (OpV_own 3 rfl rfl rfl (readT_int hxr)) rfl ?_
        refine JL_run [] rfl ?_
        have hnext : OKt N rm least s.met (r : Int) → ∀ (j : Nat) (z : Int), j < q + (i + 1) → row.l[j]? = some z → OKt N rm least s.met z := by
          intro hok j z hj hz
          by_cases e : j = q + i
          · subst e; rw [hy] at hz; simp only [Option.some.injEq] at hz; rw [← hz]; exact hok
          · exact hscan j z (by omega) hz
        by_cases hge : least ≤ x
        · refine JL_set 102 (v' := .bool true) rfl (congrArg Value.bool (cdec_yes hge)) ?_
          refine JL_run [6] rfl ?_
          refine JL_val [6] (idx1z rfl rfl rfl rfl rfl (by omega)) rfl ?_
          refine JL_val [6] (OpV_own 1 rfl rfl rfl (show (bools s.met)[t]? = some (.bool bt) from bools_get hbt)) rfl ?_
          refine JL_all [6] rfl ?_
          cases bt with
          | true =>
            refine J_no rfl (J_skip ?_)
            (repeat' (first | refine J_seq ?_ | refine J_skip ?_ | refine J_yes rfl ?_ | refine J_no rfl ?_))
            refine J_region ?_
            refine JL_all [] rfl ?_
            refine ⟨i + 1, ⟨?_, rfl, rfl, rfl, rfl, rfl, rfl, rfl, rfl, rfl, trivial⟩, Fit.refl, ⟨by omega, hnext (.inr ⟨t, by rw [Int.toNat_natCast]; exact ht, hbt⟩)⟩, by omega⟩
            show some (Value.int .i64 (IntKind.i64.wrap ((i : Int) + 1))) = _
            rw [w64 (by omega)]; rfl
          | false =>
            refine J_yes rfl ?_
            (repeat' (first | refine J_seq ?_ | refine J_skip ?_ | refine J_yes rfl ?_ | refine J_no rfl ?_))
            refine J_region ?_
            refine JL_run [] rfl ?_
            refine JL_val [] (idx1z rfl rfl rfl rfl rfl (by omega)) rfl ?_
            refine JL_store_own 1 rfl rfl rfl rfl (put_bools rfl (by have := hI.ml; omega)) [] rfl ?_
            refine JL_nil ?_
            (repeat' (first | refine J_seq ?_ | refine J_skip ?_ | refine J_yes rfl ?_ | refine J_no rfl ?_))
            refine J_walk 15 [(0, true), (1, true), (2, true), (3, true), (6, true), (7, true), (8, true), (9, true), (10, true), (11, true), (12, true), (4, false), (5, false), (13, true), (14, true)] [2] (by kernel_rfl) (by decide) rfl ?_
            refine JW_run [] rfl ?_
            refine JW_still [] rfl (idx1z rfl rfl rfl rfl rfl (by omega)) rfl ?_
            refine JW_still [] rfl (OpV_own (v := .slice (some ⟨gv v, q, none⟩) (row.l.length - q) c') 0 rfl rfl rfl hval) rfl ?_
            refine JW_run [] rfl ?_
            refine JW_set 123 (v' := .int .i64 ((i + 1 : Nat) : Int)) rfl (congrArg (Value.int .i64) (w64 (by omega))) ?_
            refine JW_still [] rfl (OpV_from rfl rfl rfl rfl rfl (by omega)) rfl ?_
            refine JW_set 124 (v' := .slice (cutA (some ⟨gv v, q, none⟩) c' (i + 1) 1) (row.l.length - (q + i + 1)) (c' - (i + 1))) rfl (by congr 1; omega) ?_
            refine JW_eff rfl ?_
            refine JL_lit rfl rfl rfl rfl rfl rfl rfl (fun _ => rfl) fun gx => ?_
            refine JL_nil ⟨⟨[3], by decide, rfl⟩, ?_⟩
            refine JW_eff rfl ?_
            refine JL_appendS (n := s.wait.length) (m := 1) (off := 0) (news := ints [(t : Int)]) 1 0 rfl rfl rfl rfl rfl rfl (by decide) rfl rfl (shows_blk gx _ _ (0, 0)) (fun _ => rfl) rfl rfl (by omega) (by omega) (fun _ _ => rfl) fun A2 c2 => ?_
            refine JL_nil ⟨⟨[3], by decide, rfl⟩, ?_⟩
            rw [show s.wait.length + 1 = (s.wait ++ [(t : Int)]).length by simp, show ints s.wait ++ ints [(t : Int)] = ints (s.wait ++ [(t : Int)]) by simp [ints]]
            refine JW_run [] rfl ?_
            refine JW_still [] rfl (idx1z rfl rfl rfl rfl rfl (by omega)) rfl ?_
            refine JW_nil ?_
            refine JL_store_own 3 rfl rfl rfl rfl (put_one rfl rfl rfl (by have := hI.vl; omega)) [] rfl ?_
            refine JL_nil ?_
            refine J_exit ?_
            refine ⟨⟨s.met.set t true, A2, c2, s.wait ++ [(t : Int)], s.pos.set v (q + i + 1), s.vals.set v (.slice (cutA (some ⟨gv v, q, none⟩) c' (i + 1) 1) (row.l.length - (q + i + 1)) (c' - (i + 1)))⟩, ⟨rfl, rfl, rfl, rfl, rfl, rfl, trivial⟩, Fit.sub (List.sublist_cons_self _ _), ?_, ?_⟩
            · refine hI.push hvm hrow hscan hy hru ht htn hr (by rw [hxd]; exact hge) hbt (by omega) (fun hp => ?_) A2 c2
              have := cutA_at (A := some ⟨gv v, q, none⟩) (c := c') (l := i + 1) (n := row.l.length - q) (sz := 1) (fun _ => rfl) hcc (by omega)
              rw [this]; simp [Nat.add_assoc]
            · have := count_set s.met t hbt
              simp only [List.length_append, List.length_singleton]
              omega
        · refine JL_set 102 (v' := .bool false) rfl (congrArg Value.bool (cdec_no hge)) ?_
          refine JL_all [6] rfl ?_
          refine J_no rfl (J_skip ?_)
          (repeat' (first | refine J_seq ?_ | refine J_skip ?_ | refine J_yes rfl ?_ | refine J_no rfl ?_))
          refine J_region ?_
          refine JL_all [] rfl ?_
          refine ⟨i + 1, ⟨?_, rfl, rfl, rfl, rfl, rfl, rfl, rfl, rfl, rfl, trivial⟩, Fit.refl, ⟨by omega, hnext (.inl (by rw [Int.toNat_natCast, hxd]; omega))⟩, by omega⟩
          show some (Value.int .i64 (IntKind.i64.wrap ((i : Int) + 1))) = _
          rw [w64 (by omega)]; rfl
      · have hall : ∀ z ∈ row.l, OKt N rm least s.met z := by
          intro z hz
          obtain ⟨j, hj, rfl⟩ := List.mem_iff_getElem.1 hz
          exact hscan j _ (by omega) (List.getElem?_eq_getElem hj)
        (repeat' (first | refine J_seq ?_ | refine J_skip ?_ | refine J_yes rfl ?_ | refine J_no rfl ?_))
        refine J_region ?_
        refine JL_run [] rfl ?_
        refine JL_set 130 (v' := .int .i64 ((s.wait.length - 1 : Nat) : Int)) rfl (congrArg (Value.int .i64) ((w64 (n := (s.wait.length : Int) - 1) (by omega)).trans (by omega))) ?_
        refine JL_val [] (OpV_upto rfl rfl rfl rfl rfl (by omega)) rfl ?_
        refine JL_shrink (m := s.wait.length - 1) 0 rfl (by omega) ?_
        rw [Nat.mul_one, show (ints s.wait).take (s.wait.length - 1) = ints (s.wait.take (s.wait.length - 1)) by simp [ints]]
        refine JL_all [] rfl ?_
        have hlw : (s.wait.take (s.wait.length - 1)).length = s.wait.length - 1 := by rw [List.length_take]; omega
        refine ⟨⟨s.met, s.Aw, s.cw, s.wait.take (s.wait.length - 1), s.pos, s.vals⟩, ⟨by simp only [hlw]; rfl, rfl, rfl, rfl, rfl, rfl, trivial⟩, by simp only [hlw]; exact Fit.refl, hI.pop hwsplit hrow hall _ _, by simp only [hlw]; omega⟩
    · have hw0 : s.wait = [] := List.length_eq_zero_iff.1 (by omega)
      (repeat' (first | refine J_seq ?_ | refine J_skip ?_ | refine J_yes rfl ?_ | refine J_no rfl ?_))
      refine J_region ?_
      refine JL_all [] rfl ?_
      refine J_drop [1] (by decide) rfl (J_ret ⟨_, rfl, .inl ⟨hW, by omega, s.met, gm, hI.ml, fun v => ?_, rfl, rfl⟩⟩)
      rw [← hrm]
      exact hI.final hw0 hs0 hrows hgl (fun r hr => ⟨(endsZ N r).1.toNat, by have := endsZ_in hR (show r < 2 * N.arcs.length by omega); omega⟩) v
end Go.Proofs.Ytbhfbpeldcnpfaa
