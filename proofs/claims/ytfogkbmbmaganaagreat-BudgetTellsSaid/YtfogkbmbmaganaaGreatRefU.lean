
/- The references' words: the first walk from a node on. -/
import Derived.Test.YtfogkbmbmaganaaGreatQX17
import Derived.Test.YtfogkbmbmaganaaGreatQX19
set_option linter.unusedVariables false
set_option linter.unusedSimpArgs false
namespace Go.Proofs.YtfogkbmbmaganaaGreat
open Go.RowKit
section
variable {N : Net} {ls : List Nat} {least : Int} {rm : List Int} {D : List Bool}
def More (D D' : List Bool) : Prop := ∀ v : Nat, D[v]? = some true → D'[v]? = some true
theorem More.refl (D : List Bool) : More D D := fun _ h => h
theorem More.trans {D D' D'' : List Bool} (h : More D D') (k : More D' D'') : More D D'' := fun v hv => k v (h v hv)
theorem DeadC.put (h : DeadC N ls least rm D) {u : Nat} (hu : u < N.nodes.toNat + 1) (hs : u ≠ N.snk.toNat) (hall : ∀ r ∈ ls, frN N r = u → rm.getD r 0 < least ∨ D[toN N r]? = some true) : DeadC N ls least rm (D.set u true) ∧ More D (D.set u true) ∧ (D.set u true)[u]? = some true := by
  have hm : More D (D.set u true) := fun v hv => by
    by_cases e : u = v
    · subst e; rw [List.getElem?_set_self (by rw [h.len]; exact hu)]
    · rw [List.getElem?_set_ne e]; exact hv
  refine ⟨⟨by rw [List.length_set]; exact h.len, ?_, fun v hv r hr he => ?_⟩, hm, List.getElem?_set_self (by rw [h.len]; exact hu)⟩
  · rw [List.getElem?_set_ne hs]; exact h.snk
  · by_cases e : u = v
    · subst e
      exact (hall r hr he).imp id fun h1 => hm _ h1
    · rw [List.getElem?_set_ne e] at hv
      exact (h.closed v hv r hr he).imp id fun h1 => hm _ h1
end
theorem Tr_len {N : Net} {lv : Nat → Int} : ∀ {W : List Nat} {a z : Nat}, Tr N a W z → (∀ r ∈ W, lv (toN N r) = lv (frN N r) + 1) → lv z = lv a + W.length
  | [], a, z, ht, _ => by
    have e : a = z := ht
    subst e; simp
  | r :: W, a, z, ht, hl => by
    obtain ⟨e, ht'⟩ : frN N r = a ∧ Tr N (toN N r) W z := ht
    have ih := Tr_len ht' fun q hq => hl q (by simp [hq])
    have := hl r (by simp)
    rw [e] at this
    rw [List.length_cons, ih, this]; omega
def seekR (N : Net) (ls : List Nat) (least : Int) (rm : List Int) (D : List Bool) (u n gd : Nat) (v : Value) (H' : Heap) : Prop :=
  ∃ D', DeadC N ls least rm D' ∧ More D D' ∧
  ((∃ (W : List Nat) (A' : Option Addr) (c' : Nat), Tr N u W N.snk.toNat ∧ (∀ r ∈ W, FirstT N ls least rm D' r) ∧ v = .tuple #[.slice A' W.length c', .bool true] ∧
      H' = [.own (.slice A' W.length c') 3 1 W.length (natsI W), .own (.slice (some ⟨gd, 0, none⟩) (n + 1) (n + 1)) 4 1 (n + 1) (bools D')]) ∨
   (D'[u]? = some true ∧ v = .tuple #[.slice none 0 0, .bool false] ∧ H' = [.own (.slice (some ⟨gd, 0, none⟩) (n + 1) (n + 1)) 4 1 (n + 1) (bools D')]))
set_option maxHeartbeats 2000000 in
theorem seek_fn (N : Net) (hR : N.Right) (A : Option Addr) (c b o : Nat) (hA : N.arcs ≠ [] → A = some ⟨b, o, none⟩) (rm : List Int) (hrl : rm.length = 2 * N.arcs.length) (R : Option Addr) (cr br or_ : Nat) (hRm : rm ≠ [] → R = some ⟨br, or_, none⟩)
    (ls : List Nat) (hlt : ∀ r ∈ ls, r < 2 * N.arcs.length) (hs : ls.Pairwise (· < ·)) (hll : ls.length ≤ 4000) (B : Option Addr) (cb bb ob : Nat) (hB : ls ≠ [] → B = some ⟨bb, ob, none⟩) (least : Int) (n gd : Nat) (hn : N.nodes = n) (lv : Nat → Int) (hlv : ∀ r ∈ ls, lv (toN N r) = lv (frN N r) + 1) (hhi : ∀ v, -1 ≤ lv v ∧ lv v < N.nodes) :
    ∀ (k : Nat) (D : List Bool) (u : Nat), u ≤ n → 1 ≤ u → N.nodes ≤ lv u + k → DeadC N ls least rm D →
    Fn 95 [netV N A c, .slice R (2 * N.arcs.length) cr, .slice B ls.length cb, .int .i64 least, .int .i64 (u : Int), .slice (some ⟨gd, 0, none⟩) (n + 1) (n + 1)] (mines [.own (.slice (some ⟨gd, 0, none⟩) (n + 1) (n + 1)) 4 1 (n + 1) (bools D)])
      ([.seg b o (arcs N.arcs), .seg br or_ (ints rm), .seg bb ob (natsI ls)] ++ [.own (.slice (some ⟨gd, 0, none⟩) (n + 1) (n + 1)) 4 1 (n + 1) (bools D)]) (seekR N ls least rm D u n gd) := by
  intro k
  induction k with
  | zero =>
    intro D u _ _ hk
    have := hhi u
    omega
  | succ k ih =>
    intro D u hun hu1 hk hD
    have hnn := hR.nodes
    have hsk := hR.snk
    have hl2 := hR.len
    have hDl := hD.len
    have hn' : N.nodes.toNat = n := by omega
    generalize hM : mines _ = M
    refine Fn_of Tryz.func95 rfl rfl fun w0 => ?_
    (repeat' (first | refine J_seq ?_ | refine J_skip ?_ | refine J_yes rfl ?_ | refine J_no rfl ?_))
    refine J_region ?_
    refine JL_box (cs := netC N A c) rfl rfl rfl (fun _ => rfl) fun p => ?_
    refine JL_all [] rfl ?_
    (repeat' (first | refine J_seq ?_ | refine J_skip ?_ | refine J_yes rfl ?_ | refine J_no rfl ?_))
    refine J_region ?_
    refine JL_run [] rfl ?_
    refine JL_val [] (v := .int .i64 N.snk) (OpV_blk 0 rfl rfl rfl rfl) rfl ?_
    refine JL_all [] rfl ?_
    refine J_dec rfl (fun h => ?_) (fun hus => J_skip ?_)
    · (repeat' (first | refine J_seq ?_ | refine J_skip ?_ | refine J_yes rfl ?_ | refine J_no rfl ?_))
      refine J_region ?_
      refine JL_all [] rfl ?_
      refine J_addnil 3 1 ?_
      refine J_fit (K := [.own (.slice none 0 0) 3 1 0 [], .own (.slice (some ⟨gd, 0, none⟩) (n + 1) (n + 1)) 4 1 (n + 1) (bools D)]) (Fit.picks [0, 5] (by decide) rfl) ?_
      exact J_drop [0, 1] (by decide) rfl (J_ret ⟨_, rfl, D, hD, More.refl D, .inl ⟨[], none, 0, (by show u = N.snk.toNat; omega), by simp, rfl, rfl⟩⟩)
    have hus' : u ≠ N.snk.toNat := by omega
    (repeat' (first | refine J_seq ?_ | refine J_skip ?_ | refine J_yes rfl ?_ | refine J_no rfl ?_))
    refine J_region ?_
    refine JL_all [] rfl ?_
    (repeat' (first | refine J_seq ?_ | refine J_skip ?_ | refine J_yes rfl ?_ | refine J_no rfl ?_))
    refine J_block ?_
    refine J_loopF (σ := Nat × List Bool) (fun s => [(14, .int .i64 (s.1 : Int)), (1, .slice R (2 * N.arcs.length) cr), (2, .slice B ls.length cb), (3, .int .i64 least), (4, .int .i64 (u : Int)), (5, .slice (some ⟨gd, 0, none⟩) (n + 1) (n + 1)), (6, .pointer (some ⟨p, 0, none⟩))])
      (fun s => [.own (.slice (some ⟨gd, 0, none⟩) (n + 1) (n + 1)) 4 1 (n + 1) (bools s.2), blk p 24 (netC N A c), .seg b o (arcs N.arcs), .seg br or_ (ints rm), .seg bb ob (natsI ls)])
      (fun s => s.1 ≤ ls.length ∧ DeadC N ls least rm s.2 ∧ More D s.2 ∧ ∀ (j r : Nat), j < s.1 → ls[j]? = some r → frN N r = u → rm.getD r 0 < least ∨ s.2[toN N r]? = some true) (fun s => ls.length - s.1) (0, D) ⟨rfl, rfl, rfl, rfl, rfl, rfl, rfl, trivial⟩ (Fit.picks [4, 0, 1, 2, 3] (by decide) rfl) ⟨Nat.zero_le _, hD, More.refl D, fun j r hj => by omega⟩ ?_
    rintro ⟨i, D1⟩ ⟨hi, hD1, hm1, hall⟩
    simp only at hi hD1 hm1 hall ⊢
    have hDl1 := hD1.len
    (repeat' (first | refine J_seq ?_ | refine J_skip ?_ | refine J_yes rfl ?_ | refine J_no rfl ?_))
    refine J_region ?_
    refine JL_all [] rfl ?_
    (repeat' (first | refine J_seq ?_ | refine J_skip ?_ | refine J_yes rfl ?_ | refine J_no rfl ?_))
    refine J_dec rfl (fun hlt' => J_skip ?_) (fun hge => J_exit ?_)
    · have hil : i < ls.length := by omega
      obtain ⟨r, hr⟩ : ∃ r, ls[i]? = some r := ⟨ls[i], List.getElem?_eq_getElem hil⟩
      have hrm := List.mem_of_getElem? hr
      have hrl2 := hlt r hrm
      obtain ⟨e1, f1, f2⟩ := frN_eq hR hrl2
      obtain ⟨e2, t1, t2⟩ := toN_eq hR hrl2
      have hE : endsZ N r = ((frN N r : Int), (toN N r : Int)) := Prod.ext e1 e2
      have T := rends_fn N A c b o hA hl2 r hrl2
      rw [hE] at T
      obtain ⟨x, hx⟩ : ∃ x, rm[r]? = some x := ⟨rm[r]'(by omega), List.getElem?_eq_getElem (by omega)⟩
      have hxd : rm.getD r 0 = x := by rw [List.getD_eq_getElem?_getD, hx]; rfl
      obtain ⟨bd, hbd⟩ : ∃ bd, D1[toN N r]? = some bd := ⟨_, List.getElem?_eq_getElem (show toN N r < D1.length by omega)⟩
      obtain rfl := hB (by rintro rfl; simp at hil)
      obtain rfl := hRm (by rintro rfl; simp at hx)
      have hlsr : (natsI ls)[i]? = some (.int .i64 (r : Int)) := ints_get (l := ls.map fun (i : Nat) => (i : Int)) (by rw [List.getElem?_map, hr]; rfl)
      have hq : IntKind.i64.wrap ((i : Int) + 1) = ((i + 1 : Nat) : Int) := w64 (by omega)
      refine J_seq (J_block ?_)
      (repeat' (first | refine J_seq ?_ | refine J_skip ?_ | refine J_yes rfl ?_ | refine J_no rfl ?_))
      refine J_walk 11 [(0, true), (1, true), (2, true), (3, true), (4, true), (5, false), (6, true), (7, true), (8, true), (9, true), (10, true)] [1, 4] (by kernel_rfl) (by decide) rfl ?_
      refine JW_still [] rfl (OpV_blk (v := netV N A c) 0 rfl rfl rfl rfl) rfl ?_
      refine JW_run [] rfl ?_
      refine JW_still [] rfl (idx1 rfl rfl rfl rfl rfl hil) rfl ?_
      refine JW_still [] rfl (ldseg (v := .int .i64 (r : Int)) 1 rfl rfl rfl rfl hlsr) rfl ?_
      refine JW_eff rfl ?_
      refine JL_callR [] T rfl rfl rfl rfl (by kernel_rfl) ⟨⟨2, _, by simp, rfl, shows_seg _ _ _, seen_seg⟩, trivial⟩ (fun _ => rfl) ?_
      rintro v H' ⟨rfl, rfl⟩
      refine ⟨rfl, JL_nil ⟨⟨[1, 4], by decide, rfl⟩, ?_⟩⟩
      refine JW_all [] rfl ?_
      refine JL_nil ?_
      refine J_seq ?_
      refine J_cut [(57, .bool (cdec (frN N r ≠ u ∨ bd = true ∨ x < least))), (16, .int .i64 (toN N r : Int)), (14, .int .i64 (i : Int)), (1, .slice (some ⟨br, or_, none⟩) (2 * N.arcs.length) cr), (2, .slice (some ⟨bb, ob, none⟩) ls.length cb), (3, .int .i64 least), (4, .int .i64 (u : Int)), (5, .slice (some ⟨gd, 0, none⟩) (n + 1) (n + 1)), (6, .pointer (some ⟨p, 0, none⟩))]
        [.own (.slice (some ⟨gd, 0, none⟩) (n + 1) (n + 1)) 4 1 (n + 1) (bools D1), blk p 24 (netC N A c), .seg b o (arcs N.arcs), .seg br or_ (ints rm), .seg bb ob (natsI ls)] ?_ ?_
      · (repeat' (first | refine J_seq ?_ | refine J_skip ?_ | refine J_yes rfl ?_ | refine J_no rfl ?_))
        refine J_region ?_
        refine JL_evO (gs := [999]) rfl ?_
        refine JL_evO (gs := [999]) rfl ?_
        refine JL_evO (gs := [999]) rfl ?_
        refine JL_evO (gs := [999]) rfl ?_
        by_cases h1 : frN N r = u
        case neg =>
          refine JL_set 41 (v' := .bool true) rfl (congrArg Value.bool (cdec_yes (by omega))) ?_
          refine JL_all [3, 9] rfl ?_
          exact ⟨[0, 1, 2, 3, 4], ⟨congrArg some (congrArg Value.bool (cdec_yes (.inl h1)).symm), rfl, rfl, rfl, rfl, rfl, rfl, rfl, rfl, trivial⟩, by decide, rfl⟩
        refine JL_set 41 (v' := .bool false) rfl (congrArg Value.bool (cdec_no (by omega))) ?_
        refine JL_run [3] rfl ?_
        refine JL_val [3] (idx1z rfl rfl rfl rfl rfl (show toN N r < n + 1 by omega)) rfl ?_
        refine JL_val [3] (OpV_own 0 rfl rfl rfl (show (bools _)[toN N r]? = some (.bool bd) from bools_get hbd)) rfl ?_
        cases bd with
        | true =>
          refine JL_all [3, 9] rfl ?_
          exact ⟨[0, 1, 2, 3, 4], ⟨congrArg some (congrArg Value.bool (cdec_yes (.inr (.inl rfl))).symm), rfl, rfl, rfl, rfl, rfl, rfl, rfl, rfl, trivial⟩, by decide, rfl⟩
        | false =>
          refine JL_run [3, 9] rfl ?_
          refine JL_val [3, 9] (idx1 rfl rfl rfl rfl rfl hil) rfl ?_
          refine JL_val [3, 9] (ldseg (v := .int .i64 (r : Int)) 4 rfl rfl rfl rfl hlsr) rfl ?_
          refine JL_val [3, 9] (idx1 rfl rfl rfl rfl rfl hrl2) rfl ?_
          refine JL_val [3, 9] (ldseg 3 rfl rfl rfl rfl (readT_int hx)) rfl ?_
          refine JL_all [3, 9] rfl ?_
          exact ⟨[0, 1, 2, 3, 4], ⟨congrArg some (congrArg Value.bool (cdec_iff ⟨fun h => .inr (.inr h), fun h => (h.resolve_left (fun k => k h1)).resolve_left (fun k => Bool.noConfusion k)⟩)), rfl, rfl, rfl, rfl, rfl, rfl, rfl, rfl, trivial⟩, by decide, rfl⟩
      · refine J_dec rfl (fun hgo => ?_) (fun hgo => J_skip ?_)
        · refine J_exit ?_
          (repeat' (first | refine J_seq ?_ | refine J_skip ?_ | refine J_yes rfl ?_ | refine J_no rfl ?_))
          refine J_region ?_
          refine JL_all [] rfl ?_
          refine ⟨(i + 1, D1), ⟨congrArg some (congrArg (Value.int .i64) hq), rfl, rfl, rfl, rfl, rfl, rfl, trivial⟩, Fit.refl, ⟨hil, hD1, hm1, fun j q hj hq2 he => ?_⟩, by simp only; omega⟩
          by_cases e : j = i
          · subst e
            rw [hr] at hq2
            obtain rfl := Option.some.inj hq2
            rcases hgo with h1 | h1 | h1
            · exact absurd he h1
            · subst h1; exact .inr hbd
            · exact .inl (by omega)
          · exact hall j q (by simp only at hj; omega) hq2 he
        · have hfr : frN N r = u := Classical.byContradiction fun h => hgo (.inl h)
          have hbf : bd = false := by cases bd; rfl; exact absurd (.inr (.inl rfl)) hgo
          have hxl : least ≤ x := Classical.byContradiction fun h => hgo (.inr (.inr (by omega)))
          have hlr := hlv r hrm
          rw [hfr] at hlr
          (repeat' (first | refine J_seq ?_ | refine J_skip ?_ | refine J_yes rfl ?_ | refine J_no rfl ?_))
          refine J_region ?_
          refine JL_run [] rfl ?_
          refine JL_val [] (v := netV N A c) (OpV_blk 1 rfl rfl rfl rfl) rfl ?_
          refine JL_run [] rfl ?_
          refine JL_callK [] (ih D1 (toN N r) (by omega) (by omega) (by omega) hD1) rfl rfl rfl rfl (by kernel_rfl) Fit.refl ⟨⟨1, _, by simp, rfl, shows_seg _ _ _, seen_seg⟩, ⟨2, _, by simp, rfl, shows_seg _ _ _, seen_seg⟩, ⟨3, _, by simp, rfl, shows_seg _ _ _, seen_seg⟩, trivial⟩ (fun _ => rfl) ?_
          rintro v H' ⟨D2, hD2, hm2, (⟨W, A', c', hT, hF, rfl, rfl⟩ | ⟨hdead, rfl, rfl⟩)⟩
          · refine ⟨rfl, ?_⟩
            have hwl := Tr_len (lv := lv) hT fun q hq => hlv q (hF q hq).1
            have h5 := hhi N.snk.toNat
            have h6 := hhi (toN N r)
            refine JL_all [] rfl ?_
            (repeat' (first | refine J_seq ?_ | refine J_skip ?_ | refine J_yes rfl ?_ | refine J_no rfl ?_))
            refine J_region ?_
            refine JL_all [] rfl ?_
            (repeat' (first | refine J_seq ?_ | refine J_skip ?_ | refine J_yes rfl ?_ | refine J_no rfl ?_))
            (repeat' (first | refine J_seq ?_ | refine J_skip ?_ | refine J_yes rfl ?_ | refine J_no rfl ?_))
            refine J_region ?_
            refine JL_run [] rfl ?_
            refine JL_val [] (idx1 rfl rfl rfl rfl rfl hil) rfl ?_
            refine JL_val [] (ldseg (v := .int .i64 (r : Int)) 5 rfl rfl rfl rfl hlsr) rfl ?_
            refine JL_know (own_is 0 rfl) fun ⟨_, _, hAw, hw1⟩ => ?_
            obtain ⟨gw, hAw⟩ := own_at hAw hw1
            refine JL_lit rfl rfl rfl rfl rfl rfl rfl (fun _ => rfl) fun gx => ?_
            refine JL_fit (fun w h => h.blkOwn (sz := 1) (n := 1) rfl (by decide)) ?_
            refine JL_evO (gs := [999]) rfl ?_
            refine JL_appendS (n := 1) (m := W.length) (off := 0) (news := natsI W) 0 1 rfl rfl rfl rfl rfl rfl (by decide) rfl rfl (shows_ownS hAw) hAw (by unfold natsI; rw [ints_length]; simp) (one_ints' _) (by omega) (by omega) (fun _ _ => rfl) fun A3 c3 => ?_
            refine JL_all [] rfl ?_
            have hlen : 1 + W.length = (r :: W).length := by rw [List.length_cons]; omega
            have hrow : (Value.int IntKind.i64 (r : Int)).cells.toList ++ [] ++ natsI W = natsI (r :: W) := rfl
            rw [hrow, hlen]
            have hfirst : FirstT N ls least rm D2 r := by
              refine ⟨hrm, by omega, fun q hq' he hqr => ?_⟩
              obtain ⟨j, hj, hjq⟩ := List.mem_iff_getElem.1 hq'
              obtain ⟨hil', hir⟩ := List.getElem?_eq_some_iff.1 hr
              have hji : j < i := by
                refine Classical.byContradiction fun hc => ?_
                by_cases e : j = i
                · subst e; rw [hir] at hjq; omega
                · have := List.pairwise_iff_getElem.1 hs i j hil' hj (by omega)
                  omega
              exact (hall j q hji (by rw [List.getElem?_eq_getElem hj, hjq]) (by rw [he, hfr])).imp id fun h => hm2 _ h
            refine J_fit (K := [.own (.slice A3 (r :: W).length c3) 3 1 (r :: W).length (natsI (r :: W)), .own (.slice (some ⟨gd, 0, none⟩) (n + 1) (n + 1)) 4 1 (n + 1) (bools D2)]) (Fit.picks [0, 2] (by decide) rfl) ?_
            refine J_drop [0, 1] (by decide) rfl (J_ret ⟨_, rfl, D2, hD2, hm1.trans hm2, .inl ⟨r :: W, A3, c3, ⟨hfr, hT⟩, fun q hq => ?_, rfl, rfl⟩⟩)
            rcases List.mem_cons.1 hq with rfl | hq
            · exact hfirst
            · exact hF q hq
          · refine ⟨rfl, ?_⟩
            refine JL_all [] rfl ?_
            (repeat' (first | refine J_seq ?_ | refine J_skip ?_ | refine J_yes rfl ?_ | refine J_no rfl ?_))
            refine J_region ?_
            refine JL_all [] rfl ?_
            refine J_no rfl (J_skip ?_)
            (repeat' (first | refine J_seq ?_ | refine J_skip ?_ | refine J_yes rfl ?_ | refine J_no rfl ?_))
            refine J_region ?_
            refine JL_all [] rfl ?_
            refine ⟨(i + 1, D2), ⟨congrArg some (congrArg (Value.int .i64) hq), rfl, rfl, rfl, rfl, rfl, rfl, trivial⟩, Fit.refl, ⟨hil, hD2, hm1.trans hm2, fun j q hj hq2 he => ?_⟩, by simp only; omega⟩
            by_cases e : j = i
            · subst e
              rw [hr] at hq2
              obtain rfl := Option.some.inj hq2
              exact .inr hdead
            · exact (hall j q (by simp only at hj; omega) hq2 he).imp id fun h => hm2 _ h
    · obtain rfl : i = ls.length := by omega
      obtain ⟨q1, q2, q3⟩ := hD1.put (u := u) (by omega) hus' fun r hr he => by
        obtain ⟨j, hj, hjr⟩ := List.mem_iff_getElem.1 hr
        exact hall j r hj (by rw [List.getElem?_eq_getElem hj, hjr]) he
      (repeat' (first | refine J_seq ?_ | refine J_skip ?_ | refine J_yes rfl ?_ | refine J_no rfl ?_))
      refine J_region ?_
      refine JL_run [] rfl ?_
      refine JL_val [] (idx1z rfl rfl rfl rfl rfl (show u < n + 1 by omega)) rfl ?_
      refine JL_store_own 0 rfl rfl rfl rfl (put_bools rfl (by omega)) [] rfl ?_
      refine JL_nil ?_
      (repeat' (first | refine J_seq ?_ | refine J_skip ?_ | refine J_yes rfl ?_ | refine J_no rfl ?_))
      refine J_region ?_
      refine JL_all [] rfl ?_
      refine J_fit (K := [.own (.slice (some ⟨gd, 0, none⟩) (n + 1) (n + 1)) 4 1 (n + 1) (bools (D1.set u true))]) (Fit.picks [0] (by decide) rfl) ?_
      exact J_drop [0] (by decide) rfl (J_ret ⟨_, rfl, _, q1, hm1.trans q2, .inr ⟨q3, rfl, rfl⟩⟩)
end Go.Proofs.YtfogkbmbmaganaaGreat
