/- The engine and the words that all chapters share: several texts in one. -/
import Derived.Test.YtfogkbmbmaganaaGreatQB
import Derived.Test.YtfogkbmbmaganaaGreatQA

/- What 'Check' tells. -/
set_option linter.unusedVariables false
set_option linter.unusedSimpArgs false
namespace Go.Proofs.YtfogkbmbmaganaaGreat
open Go.RowKit
structure Net.Fits (N : Net) : Prop where
  nodes : inB N.nodes
  src : inB N.src
  snk : inB N.snk
  len : N.arcs.length * 24 ≤ 140737488351232
  arc : ∀ a ∈ N.arcs, inB a.fr ∧ inB a.to ∧ inB a.cap
theorem check_fn (N : Net) (hN : N.Fits) (A : Option Addr) (c b o : Nat) (hA : N.arcs ≠ [] → A = some ⟨b, o, none⟩) : Fn 20 [netV N A c] [] [.seg b o (arcs N.arcs)] fun v H' => v = .int .i64 (checkZ N) ∧ H' = [] := by
  have hln := hN.len
  refine Fn_of Tryz.func20 rfl rfl fun w0 => ?_
  (repeat' (first | refine J_seq ?_ | refine J_skip ?_ | refine J_yes rfl ?_ | refine J_no rfl ?_))
  refine J_region ?_
  refine JL_box (cs := netC N A c) rfl rfl rfl (fun _ => rfl) fun p => ?_
  refine JL_all [] rfl ?_
  (repeat' (first | refine J_seq ?_ | refine J_skip ?_ | refine J_yes rfl ?_ | refine J_no rfl ?_))
  refine J_region ?_
  refine JL_all [] rfl ?_
  (repeat' (first | refine J_seq ?_ | refine J_skip ?_ | refine J_yes rfl ?_ | refine J_no rfl ?_))
  refine J_block ?_
  (repeat' (first | refine J_seq ?_ | refine J_skip ?_ | refine J_yes rfl ?_ | refine J_no rfl ?_))
  refine J_region ?_
  refine JL_run [] rfl ?_
  refine JL_val [] (OpV_blk 0 rfl rfl rfl rfl) rfl ?_
  refine JL_run [] rfl ?_
  by_cases h1 : N.nodes < 2
  · refine JL_set 14 (v' := .bool true) rfl (congrArg Value.bool (cdec_yes h1)) ?_
    refine JL_all [3] rfl ?_
    refine J_yes rfl ?_
    (repeat' (first | refine J_seq ?_ | refine J_skip ?_ | refine J_yes rfl ?_ | refine J_no rfl ?_))
    refine J_region ?_
    refine JL_all [] rfl ?_
    refine J_drop [] (by decide) rfl (J_ret ⟨_, rfl, ?_, rfl⟩)
    unfold checkZ; rw [if_pos (.inl h1)]; rfl
  refine JL_set 14 (v' := .bool false) rfl (congrArg Value.bool (cdec_no h1)) ?_
  refine JL_run [3] rfl ?_
  refine JL_val [3] (OpV_blk 0 rfl rfl rfl rfl) rfl ?_
  refine JL_all [3] rfl ?_
  refine J_dec rfl (fun h2 => ?_) (fun h2 => ?_)
  · (repeat' (first | refine J_seq ?_ | refine J_skip ?_ | refine J_yes rfl ?_ | refine J_no rfl ?_))
    refine J_region ?_
    refine JL_all [] rfl ?_
    refine J_drop [] (by decide) rfl (J_ret ⟨_, rfl, ?_, rfl⟩)
    unfold checkZ; rw [if_pos (.inr h2)]; rfl
  have c1 : ¬ (N.nodes < 2 ∨ 500 < N.nodes) := by omega
  (repeat' (first | refine J_seq ?_ | refine J_skip ?_ | refine J_yes rfl ?_ | refine J_no rfl ?_))
  refine J_region ?_
  refine JL_run [] rfl ?_
  refine JL_val [] (OpV_blk 0 rfl rfl rfl rfl) rfl ?_
  refine JL_callR [] (there_fn N A c p N.src) rfl rfl rfl rfl (by kernel_rfl) ⟨⟨0, _, by simp, rfl, shows_blk _ _ _ (0, 0), .inr rfl⟩, trivial⟩ (fun _ => rfl) ?_
  rintro v H' ⟨rfl, rfl⟩
  refine ⟨rfl, ?_⟩
  refine JL_run [] rfl ?_
  by_cases h3 : there N N.src
  case neg =>
    refine JL_set 25 (v' := .bool true) rfl (congrArg Value.bool (by rw [cdec_no h3]; rfl)) ?_
    refine JL_all [5] rfl ?_
    refine J_yes rfl ?_
    (repeat' (first | refine J_seq ?_ | refine J_skip ?_ | refine J_yes rfl ?_ | refine J_no rfl ?_))
    refine J_region ?_
    refine JL_all [] rfl ?_
    refine J_drop [] (by decide) rfl (J_ret ⟨_, rfl, ?_, rfl⟩)
    unfold checkZ; rw [if_neg c1, if_pos (fun hc => h3 hc.1)]; rfl
  refine JL_set 25 (v' := .bool false) rfl (congrArg Value.bool (by rw [cdec_yes h3]; rfl)) ?_
  refine JL_run [5] rfl ?_
  refine JL_val [5] (OpV_blk 0 rfl rfl rfl rfl) rfl ?_
  refine JL_callR [5] (there_fn N A c p N.snk) rfl rfl rfl rfl (by kernel_rfl) ⟨⟨0, _, by simp, rfl, shows_blk _ _ _ (0, 0), .inr rfl⟩, trivial⟩ (fun _ => rfl) ?_
  rintro v H' ⟨rfl, rfl⟩
  refine ⟨rfl, ?_⟩
  refine JL_run [5] rfl ?_
  by_cases h4 : there N N.snk
  case neg =>
    refine JL_set 19 (v' := .bool true) rfl (congrArg Value.bool (by rw [cdec_no h4]; rfl)) ?_
    refine JL_nil ?_
    refine J_yes rfl ?_
    (repeat' (first | refine J_seq ?_ | refine J_skip ?_ | refine J_yes rfl ?_ | refine J_no rfl ?_))
    refine J_region ?_
    refine JL_all [] rfl ?_
    refine J_drop [] (by decide) rfl (J_ret ⟨_, rfl, ?_, rfl⟩)
    unfold checkZ; rw [if_neg c1, if_pos (fun hc => h4 hc.2)]; rfl
  refine JL_set 19 (v' := .bool false) rfl (congrArg Value.bool (by rw [cdec_yes h4]; rfl)) ?_
  refine JL_nil ?_
  refine J_no rfl ?_
  have c2 : ¬ ¬ (there N N.src ∧ there N N.snk) := fun h => h ⟨h3, h4⟩
  (repeat' (first | refine J_seq ?_ | refine J_skip ?_ | refine J_yes rfl ?_ | refine J_no rfl ?_))
  refine J_region ?_
  refine JL_run [] rfl ?_
  refine JL_val [] (OpV_blk 0 rfl rfl rfl rfl) rfl ?_
  refine JL_run [] rfl ?_
  refine JL_val [] (OpV_blk 0 rfl rfl rfl rfl) rfl ?_
  refine JL_all [] rfl ?_
  refine J_dec rfl (fun h5 => ?_) (fun h5 => ?_)
  · (repeat' (first | refine J_seq ?_ | refine J_skip ?_ | refine J_yes rfl ?_ | refine J_no rfl ?_))
    refine J_region ?_
    refine JL_all [] rfl ?_
    refine J_drop [] (by decide) rfl (J_ret ⟨_, rfl, ?_, rfl⟩)
    unfold checkZ; rw [if_neg c1, if_neg c2, if_pos h5]; rfl
  (repeat' (first | refine J_seq ?_ | refine J_skip ?_ | refine J_yes rfl ?_ | refine J_no rfl ?_))
  refine J_region ?_
  refine JL_run [] rfl ?_
  refine JL_val [] (OpV_blk 0 rfl rfl rfl rfl) rfl ?_
  refine JL_all [] rfl ?_
  refine J_dec rfl (fun h6 => ?_) (fun h6 => J_skip ?_)
  · (repeat' (first | refine J_seq ?_ | refine J_skip ?_ | refine J_yes rfl ?_ | refine J_no rfl ?_))
    refine J_region ?_
    refine JL_all [] rfl ?_
    refine J_drop [] (by decide) rfl (J_ret ⟨_, rfl, ?_, rfl⟩)
    unfold checkZ; rw [if_neg c1, if_neg c2, if_neg h5, if_pos (by omega)]; rfl
  have hck : checkZ N = badArc N 0 N.arcs := by unfold checkZ; rw [if_neg c1, if_neg c2, if_neg h5, if_neg (by omega)]
  rw [hck]
  (repeat' (first | refine J_seq ?_ | refine J_skip ?_ | refine J_yes rfl ?_ | refine J_no rfl ?_))
  refine J_region ?_
  refine JL_all [] rfl ?_
  (repeat' (first | refine J_seq ?_ | refine J_skip ?_ | refine J_yes rfl ?_ | refine J_no rfl ?_))
  refine J_region ?_
  refine JL_run [] rfl ?_
  refine JL_val [] (OpV_blk 0 rfl rfl rfl rfl) rfl ?_
  refine JL_all [] rfl ?_
  refine J_block ?_
  refine J_loop (σ := Nat × Int) (fun s => [(46, .int .i64 s.1), (45, .int .i64 N.arcs.length), (44, .slice A N.arcs.length c), (4, .int .i64 s.2), (3, .func (.func 39) #[] #[.pointer (some ⟨p, 0, none⟩)]), (1, .pointer (some ⟨p, 0, none⟩))])
    (fun s => [blk p 24 (netC N A c), .seg b o (arcs N.arcs)]) (fun s => s.1 ≤ N.arcs.length ∧ inB s.2 ∧ badArc N 0 N.arcs = badArc N s.2 (N.arcs.drop s.1)) (fun s => N.arcs.length - s.1)
    (0, 0) [0, 1] ⟨rfl, rfl, rfl, rfl, rfl, rfl, trivial⟩ (by decide) rfl ⟨Nat.zero_le _, by decide, rfl⟩ ?_
  rintro ⟨k, n⟩ ⟨hk, hn, hbad⟩
  simp only at hk hn hbad ⊢
  (repeat' (first | refine J_seq ?_ | refine J_skip ?_ | refine J_yes rfl ?_ | refine J_no rfl ?_))
  refine J_region ?_
  refine JL_all [] rfl ?_
  refine J_seq (J_dec rfl (fun hlt => J_skip ?_) (fun hge => J_exit ?_))
  · have hlt : k < N.arcs.length := by omega
    obtain rfl := hA (by intro h; rw [h] at hlt; simp at hlt)
    obtain ⟨x, hx⟩ : ∃ x, N.arcs[k]? = some x := ⟨N.arcs[k], List.getElem?_eq_getElem hlt⟩
    have hxB := hN.arc x (List.mem_of_getElem? hx)
    have hd : N.arcs.drop k = x :: N.arcs.drop (k + 1) := by
      obtain ⟨_, rfl⟩ := List.getElem?_eq_some_iff.1 hx
      rw [List.drop_eq_getElem_cons hlt]
    rw [hd, badArc] at hbad
    refine J_seq (J_block ?_)
    (repeat' (first | refine J_seq ?_ | refine J_skip ?_ | refine J_yes rfl ?_ | refine J_no rfl ?_))
    refine J_region ?_
    refine JL_run [] rfl ?_
    refine JL_val [] (idxN rfl rfl rfl rfl rfl hlt) rfl ?_
    refine JL_val [] (ldseg 1 rfl rfl rfl rfl (readT_arc hx)) rfl ?_
    refine JL_alloc rfl rfl rfl (fun _ => rfl) fun q => ?_
    refine JL_store 0 rfl rfl rfl rfl rfl [] rfl ?_
    refine JL_nil ?_
    (repeat' (first | refine J_seq ?_ | refine J_skip ?_ | refine J_yes rfl ?_ | refine J_no rfl ?_))
    refine J_region ?_
    refine JL_run [] rfl ?_
    refine JL_val [] (OpV_blk 0 rfl rfl rfl rfl) rfl ?_
    refine JL_callR [] (add_fn hn hxB.2.2) rfl rfl rfl rfl (by kernel_rfl) trivial (fun _ => rfl) ?_
    rintro v H' ⟨rfl, rfl⟩
    refine ⟨rfl, ?_⟩
    refine JL_all [] rfl ?_
    (repeat' (first | refine J_seq ?_ | refine J_skip ?_ | refine J_yes rfl ?_ | refine J_no rfl ?_))
    refine J_block ?_
    (repeat' (first | refine J_seq ?_ | refine J_skip ?_ | refine J_yes rfl ?_ | refine J_no rfl ?_))
    refine J_region ?_
    refine JL_run [] rfl ?_
    refine JL_val [] (OpV_blk 0 rfl rfl rfl rfl) rfl ?_
    refine JL_callR [] (there_fn N (some ⟨b, o, none⟩) c p x.fr) rfl rfl rfl rfl (by kernel_rfl) ⟨⟨1, _, by simp, rfl, shows_blk _ _ _ (0, 0), .inr rfl⟩, trivial⟩ (fun _ => rfl) ?_
    rintro v H' ⟨rfl, rfl⟩
    refine ⟨rfl, ?_⟩
    refine JL_run [] rfl ?_
    by_cases h7 : there N x.fr
    case neg =>
      refine JL_set 63 (v' := .bool true) rfl (congrArg Value.bool (by rw [cdec_no h7]; rfl)) ?_
      refine JL_all [5] rfl ?_
      refine J_yes rfl ?_
      (repeat' (first | refine J_seq ?_ | refine J_skip ?_ | refine J_yes rfl ?_ | refine J_no rfl ?_))
      refine J_region ?_
      refine JL_all [] rfl ?_
      refine J_drop [] (by decide) rfl (J_ret ⟨_, rfl, ?_, rfl⟩)
      rw [hbad, if_pos (fun h => h7 h.1)]; rfl
    refine JL_set 63 (v' := .bool false) rfl (congrArg Value.bool (by rw [cdec_yes h7]; rfl)) ?_
    refine JL_run [5] rfl ?_
    refine JL_val [5] (OpV_blk 0 rfl rfl rfl rfl) rfl ?_
    refine JL_callR [5] (there_fn N (some ⟨b, o, none⟩) c p x.to) rfl rfl rfl rfl (by kernel_rfl) ⟨⟨1, _, by simp, rfl, shows_blk _ _ _ (0, 0), .inr rfl⟩, trivial⟩ (fun _ => rfl) ?_
    rintro v H' ⟨rfl, rfl⟩
    refine ⟨rfl, ?_⟩
    refine JL_run [5] rfl ?_
    by_cases h8 : there N x.to
    case neg =>
      refine JL_set 57 (v' := .bool true) rfl (congrArg Value.bool (by rw [cdec_no h8]; rfl)) ?_
      refine JL_nil ?_
      refine J_yes rfl ?_
      (repeat' (first | refine J_seq ?_ | refine J_skip ?_ | refine J_yes rfl ?_ | refine J_no rfl ?_))
      refine J_region ?_
      refine JL_all [] rfl ?_
      refine J_drop [] (by decide) rfl (J_ret ⟨_, rfl, ?_, rfl⟩)
      rw [hbad, if_pos (fun h => h8 h.2)]; rfl
    refine JL_set 57 (v' := .bool false) rfl (congrArg Value.bool (by rw [cdec_yes h8]; rfl)) ?_
    refine JL_nil ?_
    refine J_no rfl ?_
    rw [if_neg (fun h => h ⟨h7, h8⟩)] at hbad
    (repeat' (first | refine J_seq ?_ | refine J_skip ?_ | refine J_yes rfl ?_ | refine J_no rfl ?_))
    refine J_region ?_
    refine JL_run [] rfl ?_
    refine JL_val [] (OpV_blk 0 rfl rfl rfl rfl) rfl ?_
    refine JL_all [] rfl ?_
    refine J_dec rfl (fun h9 => ?_) (fun h9 => ?_)
    · (repeat' (first | refine J_seq ?_ | refine J_skip ?_ | refine J_yes rfl ?_ | refine J_no rfl ?_))
      refine J_region ?_
      refine JL_all [] rfl ?_
      refine J_drop [] (by decide) rfl (J_ret ⟨_, rfl, ?_, rfl⟩)
      rw [hbad, if_pos h9]; rfl
    rw [if_neg h9] at hbad
    by_cases hin : inB (n + x.cap)
    case neg =>
      rw [orErr_out hin]
      (repeat' (first | refine J_seq ?_ | refine J_skip ?_ | refine J_yes rfl ?_ | refine J_no rfl ?_))
      refine J_region ?_
      refine JL_run [] rfl ?_
      refine JL_set 77 (v' := .bool true) rfl (congrArg Value.bool (cdec_yes (by simp))) ?_
      refine JL_all [2] rfl ?_
      refine J_yes rfl ?_
      (repeat' (first | refine J_seq ?_ | refine J_skip ?_ | refine J_yes rfl ?_ | refine J_no rfl ?_))
      refine J_region ?_
      refine JL_all [] rfl ?_
      refine J_drop [] (by decide) rfl (J_ret ⟨_, rfl, ?_, rfl⟩)
      rw [hbad, if_pos (.inl hin)]; rfl
    rw [orErr_in hin]
    (repeat' (first | refine J_seq ?_ | refine J_skip ?_ | refine J_yes rfl ?_ | refine J_no rfl ?_))
    refine J_region ?_
    refine JL_run [] rfl ?_
    refine JL_set 77 (v' := .bool false) rfl (congrArg Value.bool (cdec_no (by simp))) ?_
    refine JL_all [2] rfl ?_
    refine J_dec rfl (fun h10 => ?_) (fun h10 => J_skip ?_)
    · (repeat' (first | refine J_seq ?_ | refine J_skip ?_ | refine J_yes rfl ?_ | refine J_no rfl ?_))
      refine J_region ?_
      refine JL_all [] rfl ?_
      refine J_drop [] (by decide) rfl (J_ret ⟨_, rfl, ?_, rfl⟩)
      rw [hbad, if_pos (.inr h10)]; rfl
    rw [if_neg (fun h => h.elim (fun h => h hin) h10)] at hbad
    (repeat' (first | refine J_seq ?_ | refine J_skip ?_ | refine J_yes rfl ?_ | refine J_no rfl ?_))
    refine J_region ?_
    refine JL_all [] rfl ?_
    (repeat' (first | refine J_seq ?_ | refine J_skip ?_ | refine J_yes rfl ?_ | refine J_no rfl ?_))
    refine J_region ?_
    refine JL_all [] rfl ?_
    refine ⟨(k + 1, n + x.cap), [1, 2], ⟨?_, rfl, rfl, rfl, rfl, rfl, trivial⟩, by decide, rfl, ⟨by simp only; omega, hin, hbad⟩, by simp only; omega⟩
    show some (Value.int .i64 (IntKind.i64.wrap ((k : Int) + 1))) = _
    rw [w64 (by omega)]; rfl
  · have hk' : k = N.arcs.length := by omega
    subst hk'
    rw [List.drop_length, badArc] at hbad
    (repeat' (first | refine J_seq ?_ | refine J_skip ?_ | refine J_yes rfl ?_ | refine J_no rfl ?_))
    refine J_region ?_
    refine JL_all [] rfl ?_
    refine J_drop [] (by decide) rfl (J_ret ⟨_, rfl, by rw [hbad]; rfl, rfl⟩)
theorem badArc_zero (N : Net) : ∀ (l : List Arc) (s : Int), 0 ≤ s → s ≤ 4611686018427387903 → badArc N s l = 0 → (∀ a ∈ l, (1 ≤ a.fr ∧ a.fr ≤ N.nodes) ∧ (1 ≤ a.to ∧ a.to ≤ N.nodes) ∧ 0 ≤ a.cap) ∧ s + (l.map (·.cap)).sum ≤ 4611686018427387903
  | [], s, _, h, _ => ⟨fun a ha => (by cases ha), by simpa using h⟩
  | a :: l, s, h0, h1, hz => by
    rw [badArc] at hz
    split at hz
    · simp at hz
    · rename_i ht
      split at hz
      · simp at hz
      · rename_i hc
        split at hz
        · simp at hz
        · rename_i hs
          obtain ⟨i1, i2⟩ := badArc_zero N l (s + a.cap) (by omega) (by omega) hz
          have ht' := Classical.not_not.1 ht
          refine ⟨fun x hx => ?_, by simp only [List.map_cons, List.sum_cons]; omega⟩
          rcases List.mem_cons.1 hx with rfl | hx
          · exact ⟨ht'.1, ht'.2, by omega⟩
          · exact i1 x hx
theorem checkZ_zero {N : Net} (h : checkZ N = 0) : N.Right := by
  unfold checkZ at h
  split at h
  · simp at h
  · rename_i h1
    split at h
    · simp at h
    · rename_i h2
      split at h
      · simp at h
      · rename_i h3
        split at h
        · simp at h
        · rename_i h4
          have h2' := Classical.not_not.1 h2
          obtain ⟨i1, i2⟩ := badArc_zero N N.arcs 0 (by omega) (by omega) h
          exact ⟨by omega, h2'.1, h2'.2, h3, by omega, i1, by omega⟩
end Go.Proofs.YtfogkbmbmaganaaGreat


set_option linter.unusedVariables false
set_option linter.unusedSimpArgs false
namespace Go.Proofs.YtfogkbmbmaganaaGreat
open Go.RowKit

def exStep (l : List Int) (a : Arc) (f : Int) : List Int :=
  let l1 := l.set a.fr.toNat (IntKind.i64.wrap (l.getD a.fr.toNat 0 - f))
  l1.set a.to.toNat (IntKind.i64.wrap (l1.getD a.to.toNat 0 + f))
def exc (n : Nat) (al : List Arc) (fs : List Int) : List Int := (al.zip fs).foldl (fun l p => exStep l p.1 p.2) (List.replicate (n + 1) 0)

theorem exStep_length (l : List Int) (a : Arc) (f : Int) : (exStep l a f).length = l.length := by simp [exStep]
theorem exc_length (n : Nat) (al : List Arc) (fs : List Int) : (exc n al fs).length = n + 1 := by
  unfold exc
  have : ∀ (ps : List (Arc × Int)) (l : List Int), (ps.foldl (fun l p => exStep l p.1 p.2) l).length = l.length := by
    intro ps
    induction ps with
    | nil => intro l; rfl
    | cons p ps ih => intro l; simp [ih, exStep_length]
  rw [this]; simp
theorem exc_succ (n : Nat) {al : List Arc} {fs : List Int} {k : Nat} {a : Arc} {f : Int} (ha : al[k]? = some a) (hf : fs[k]? = some f) : exc n (al.take (k + 1)) fs = exStep (exc n (al.take k) fs) a f := by
  have h1 : al.take (k + 1) = al.take k ++ [a] := by
    obtain ⟨h, rfl⟩ := List.getElem?_eq_some_iff.1 ha
    rw [List.take_succ_eq_append_getElem h]
  have hk : (al.take k).length = k := by
    obtain ⟨h, _⟩ := List.getElem?_eq_some_iff.1 ha
    simp; omega
  have h2 : fs = fs.take k ++ f :: fs.drop (k + 1) := by
    obtain ⟨h, rfl⟩ := List.getElem?_eq_some_iff.1 hf
    simp
  have hk2 : (fs.take k).length = k := by
    obtain ⟨h, _⟩ := List.getElem?_eq_some_iff.1 hf
    simp; omega
  unfold exc
  rw [h1]
  conv => lhs; rw [h2]
  conv => rhs; rw [h2]
  rw [List.zip_append (by rw [hk, hk2]), List.foldl_append]
  have : (al.take k).zip (fs.take k ++ f :: fs.drop (k + 1)) = (al.take k).zip (fs.take k) := by
    conv => lhs; rw [← List.append_nil (al.take k)]
    rw [List.zip_append (by rw [hk, hk2])]; simp
  rw [this]
  simp

theorem excesses_fn (n : Nat) (src snk : Int) (A F : Option Addr) (ca cf ba oa bf of : Nat) (al : List Arc) (fs : List Int) (hn : n ≤ 500) (hA : al ≠ [] → A = some ⟨ba, oa, none⟩) (hF : al ≠ [] → F = some ⟨bf, of, none⟩)
    (hl : fs.length = al.length) (hlen : al.length ≤ 2000) (hin : ∀ a ∈ al, 0 ≤ a.fr ∧ a.fr ≤ n ∧ 0 ≤ a.to ∧ a.to ≤ n) :
    Fn 46 [.agg #[.int .i64 n, .int .i64 src, .int .i64 snk, .slice A al.length ca], .slice F al.length cf] [] [.seg ba oa (arcs al), .seg bf of (ints fs)]
      (fun v H' => ∃ g, v = .slice (some ⟨g, 0, none⟩) (n + 1) (n + 1) ∧ H' = [.own v 2 1 (n + 1) (ints (exc n al fs))]) := by
  refine Fn_of Tryz.func46 rfl rfl fun w0 => ?_
  refine J_seq (J_region ?_)
  refine JL_box rfl rfl rfl (fun _ => rfl) fun b1 => ?_
  refine JL_all [] rfl ?_
  refine J_seq (J_region ?_)
  refine JL_run [] rfl ?_
  refine JL_val [] (OpV_blk 0 rfl rfl rfl rfl) rfl ?_
  refine JL_run [] rfl ?_
  rw [w64 (n := (n : Int) + 1) (by omega)]
  refine JL_make (n := n + 1) (c := n + 1) rfl rfl rfl rfl rfl rfl (by omega) (by omega) (by omega) (fun _ => rfl) fun g => ?_
  refine JL_all [] rfl ?_
  refine J_seq (J_seq (J_region ?_))
  refine JL_run [] rfl ?_
  refine JL_val [] (OpV_blk 1 rfl rfl rfl rfl) rfl ?_
  refine JL_all [] rfl ?_
  rw [made_ints]
  refine J_block ?_
  refine J_loop (σ := Nat) (fun k => [(15, .int .i64 k), (14, .int .i64 al.length), (13, .slice A al.length ca), (5, .slice (some ⟨g, 0, none⟩) (n + 1) (n + 1)), (1, .slice F al.length cf)])
    (fun k => [.own (.slice (some ⟨g, 0, none⟩) (n + 1) (n + 1)) 2 1 (n + 1) (ints (exc n (al.take k) fs)), .seg ba oa (arcs al), .seg bf of (ints fs)]) (fun k => k ≤ al.length) (fun k => al.length - k)
    0 [0, 2, 3] ⟨rfl, rfl, rfl, rfl, rfl, trivial⟩ (by decide) (by rw [List.take_zero]; rfl) (Nat.zero_le _) fun k hk => ?_
  refine J_seq (J_region (JL_all [] rfl ?_))
  refine J_seq (J_dec rfl (fun hlt => J_skip ?_) (fun hge => J_exit ?_))
  · have hlt : k < al.length := by omega
    have hne : al ≠ [] := by rintro rfl; simp at hlt
    obtain rfl := hA hne
    obtain rfl := hF hne
    refine J_seq (J_block (J_seq (J_region ?_)))
    refine JL_run [] rfl ?_
    refine JL_val [] (idxN rfl rfl rfl rfl rfl hlt) rfl ?_
    obtain ⟨⟨fr, to, cap⟩, ha⟩ : ∃ a, al[k]? = some a := ⟨al[k], List.getElem?_eq_getElem hlt⟩
    obtain ⟨f, hf⟩ : ∃ f, fs[k]? = some f := ⟨fs[k], List.getElem?_eq_getElem (by omega)⟩
    obtain ⟨h1, h2, h3, h4⟩ := hin _ (List.mem_of_getElem? ha)
    simp only at h1 h2 h3 h4
    obtain ⟨fr, rfl⟩ := Int.eq_ofNat_of_zero_le h1
    obtain ⟨to, rfl⟩ := Int.eq_ofNat_of_zero_le h3
    refine JL_val [] (ldseg 1 rfl rfl rfl rfl (readT_arc ha)) rfl ?_
    refine JL_alloc rfl rfl rfl (fun _ => rfl) fun b2 => ?_
    refine JL_run [] rfl ?_
    refine JL_store 0 rfl rfl rfl rfl rfl [] rfl ?_
    refine JL_nil ?_
    refine J_seq (J_still 11 (by kernel_rfl) ?_)
    refine JS_run [] rfl ?_
    refine JS_val [] (OpV_blk 0 rfl rfl rfl rfl) rfl ?_
    have hel := exc_length n (al.take k) fs
    obtain ⟨x, hx⟩ : ∃ x, (exc n (al.take k) fs)[fr]? = some x := ⟨_, List.getElem?_eq_getElem (by omega)⟩
    refine JS_val [] (idx1z rfl rfl rfl rfl rfl (by omega)) rfl ?_
    refine JS_val [] (OpV_own 1 rfl rfl rfl (readT_int hx)) rfl ?_
    refine JS_run [] rfl ?_
    refine JS_val [] (idx1 rfl rfl rfl rfl rfl hlt) rfl ?_
    refine JS_val [] (ldseg 3 rfl rfl rfl rfl (readT_int hf)) rfl ?_
    refine JS_run [] rfl ?_
    refine JS_val [] (idx1z rfl rfl rfl rfl rfl (by omega)) rfl ?_
    refine JS_nil ?_
    refine JL_store_own 1 rfl rfl rfl rfl (put_ints rfl (by omega)) [] rfl ?_
    refine JL_nil ?_
    refine J_still 11 (by kernel_rfl) ?_
    obtain ⟨y, hy⟩ : ∃ y, ((exc n (al.take k) fs).set fr (IntKind.i64.wrap (x - f)))[to]? = some y := ⟨_, List.getElem?_eq_getElem (by simp; omega)⟩
    refine JS_run [] rfl ?_
    refine JS_val [] (OpV_blk 0 rfl rfl rfl rfl) rfl ?_
    refine JS_val [] (idx1z rfl rfl rfl rfl rfl (by omega)) rfl ?_
    refine JS_val [] (OpV_own 1 rfl rfl rfl (readT_int hy)) rfl ?_
    refine JS_run [] rfl ?_
    refine JS_val [] (idx1 rfl rfl rfl rfl rfl hlt) rfl ?_
    refine JS_val [] (ldseg 3 rfl rfl rfl rfl (readT_int hf)) rfl ?_
    refine JS_run [] rfl ?_
    refine JS_val [] (idx1z rfl rfl rfl rfl rfl (by omega)) rfl ?_
    refine JS_nil ?_
    refine JL_store_own 1 rfl rfl rfl rfl (put_ints rfl (by simp; omega)) [] rfl ?_
    refine JL_nil ?_
    refine J_region (JL_all [] rfl ?_)
    refine ⟨k + 1, [1, 2, 3], ⟨?_, rfl, rfl, rfl, rfl, trivial⟩, by decide, ?_, by omega, by omega⟩
    · show some (Value.int .i64 (IntKind.i64.wrap ((k : Int) + 1))) = _
      rw [w64 (by omega)]; rfl
    · rw [exc_succ n ha hf]
      have e : exStep (exc n (al.take k) fs) ⟨fr, to, cap⟩ f = ((exc n (al.take k) fs).set fr (IntKind.i64.wrap (x - f))).set to (IntKind.i64.wrap (y + f)) := by
        simp only [exStep, Int.toNat_natCast, List.getD_eq_getElem?_getD, hx, Option.getD_some, hy]
      rw [e]; rfl
  · refine J_seq (J_region (JL_all [] rfl ?_))
    refine J_drop [0] (by decide) rfl (J_ret ?_)
    have hk' : k = al.length := by omega
    subst hk'
    exact ⟨_, rfl, g, rfl, by rw [List.take_length]; rfl⟩
end Go.Proofs.YtfogkbmbmaganaaGreat


/- Flows: whether amounts are one, and what it is worth. -/
set_option linter.unusedVariables false
set_option linter.unusedSimpArgs false
namespace Go.Proofs.YtfogkbmbmaganaaGreat
open Go.RowKit
open Classical in
noncomputable def withinZ (N : Net) (f : List Int) : Int := if f.length ≠ N.arcs.length then 6 else if ∀ p ∈ N.arcs.zip f, 0 ≤ p.2 ∧ p.2 ≤ p.1.cap then 0 else 3
theorem within_fn (N : Net) (hN : N.Fits) (hR : N.Right) (A : Option Addr) (c b o : Nat) (hA : N.arcs ≠ [] → A = some ⟨b, o, none⟩) (f : List Int) (F : Option Addr) (cf bf of : Nat) (hF : f ≠ [] → F = some ⟨bf, of, none⟩) (hf : ∀ x ∈ f, inB x) (hfl : f.length * 8 ≤ 140737488351232) :
    Fn 68 [netV N A c, .slice F f.length cf] [] [.seg b o (arcs N.arcs), .seg bf of (ints f)] fun v H' => v = .int .i64 (withinZ N f) ∧ H' = [] := by
  have hln := hN.len
  refine Fn_of Tryz.func68 rfl rfl fun w0 => ?_
  (repeat' (first | refine J_seq ?_ | refine J_skip ?_ | refine J_yes rfl ?_ | refine J_no rfl ?_))
  refine J_region ?_
  refine JL_box (cs := netC N A c) rfl rfl rfl (fun _ => rfl) fun p => ?_
  refine JL_all [] rfl ?_
  (repeat' (first | refine J_seq ?_ | refine J_skip ?_ | refine J_yes rfl ?_ | refine J_no rfl ?_))
  refine J_region ?_
  refine JL_val [] (v := netV N A c) (OpV_blk 0 rfl rfl rfl rfl) rfl ?_
  refine JL_callR [] (check_fn N hN A c b o hA) rfl rfl rfl rfl (by kernel_rfl) ⟨⟨1, _, by simp, rfl, shows_seg _ _ _, seen_seg⟩, trivial⟩ (fun _ => rfl) ?_
  rintro v H' ⟨rfl, rfl⟩
  refine ⟨rfl, ?_⟩
  rw [hR.check]
  refine JL_all [] rfl ?_
  (repeat' (first | refine J_seq ?_ | refine J_skip ?_ | refine J_yes rfl ?_ | refine J_no rfl ?_))
  refine J_region ?_
  refine JL_all [] rfl ?_
  refine J_dec rfl (fun h => absurd rfl h) (fun _ => J_skip ?_)
  (repeat' (first | refine J_seq ?_ | refine J_skip ?_ | refine J_yes rfl ?_ | refine J_no rfl ?_))
  refine J_region ?_
  refine JL_run [] rfl ?_
  refine JL_val [] (OpV_blk 0 rfl rfl rfl rfl) rfl ?_
  refine JL_all [] rfl ?_
  refine J_dec rfl (fun h => ?_) (fun h => J_skip ?_)
  · (repeat' (first | refine J_seq ?_ | refine J_skip ?_ | refine J_yes rfl ?_ | refine J_no rfl ?_))
    refine J_region ?_
    refine JL_all [] rfl ?_
    refine J_drop [] (by decide) rfl (J_ret ⟨_, rfl, ?_, rfl⟩)
    unfold withinZ; rw [if_pos (by omega)]; rfl
  have hlen : f.length = N.arcs.length := by omega
  (repeat' (first | refine J_seq ?_ | refine J_skip ?_ | refine J_yes rfl ?_ | refine J_no rfl ?_))
  refine J_region ?_
  refine JL_all [] rfl ?_
  refine J_block ?_
  refine J_loop (σ := Nat) (fun k => [(21, .int .i64 k), (20, .int .i64 f.length), (19, .slice F f.length cf), (2, .pointer (some ⟨p, 0, none⟩))])
    (fun k => [blk p 24 (netC N A c), .seg b o (arcs N.arcs), .seg bf of (ints f)]) (fun k => k ≤ f.length ∧ ∀ q ∈ (N.arcs.zip f).take k, 0 ≤ q.2 ∧ q.2 ≤ q.1.cap) (fun k => f.length - k)
    0 [0, 1, 2] ⟨rfl, rfl, rfl, rfl, trivial⟩ (by decide) rfl ⟨Nat.zero_le _, fun q hq => by simp at hq⟩ ?_
  rintro k ⟨hk, hall⟩
  (repeat' (first | refine J_seq ?_ | refine J_skip ?_ | refine J_yes rfl ?_ | refine J_no rfl ?_))
  refine J_region ?_
  refine JL_all [] rfl ?_
  refine J_seq (J_dec rfl (fun hlt => J_skip ?_) (fun hge => J_exit ?_))
  · have hlt : k < f.length := by omega
    obtain rfl := hF (by rintro rfl; simp at hlt)
    obtain rfl := hA (by intro h; have h0 : N.arcs.length = 0 := by rw [h]; rfl
                         omega)
    obtain ⟨x, hx⟩ : ∃ x, f[k]? = some x := ⟨f[k], List.getElem?_eq_getElem hlt⟩
    obtain ⟨a, ha⟩ : ∃ a, N.arcs[k]? = some a := ⟨N.arcs[k], List.getElem?_eq_getElem (by omega)⟩
    obtain ⟨_, _, hcap⟩ := arcs_get ha
    have hz : (N.arcs.zip f)[k]? = some (a, x) := by simp [List.getElem?_zip_eq_some, ha, hx]
    have hbad : ¬ (0 ≤ x ∧ x ≤ a.cap) → withinZ N f = 3 := by
      intro hb
      unfold withinZ
      rw [if_neg (by omega), if_neg (fun hall => hb (hall _ (List.mem_of_getElem? hz)))]
    refine J_seq (J_block ?_)
    (repeat' (first | refine J_seq ?_ | refine J_skip ?_ | refine J_yes rfl ?_ | refine J_no rfl ?_))
    refine J_region ?_
    refine JL_run [] rfl ?_
    refine JL_val [] (idx1 rfl rfl rfl rfl rfl hlt) rfl ?_
    refine JL_val [] (ldseg 2 rfl rfl rfl rfl (readT_int hx)) rfl ?_
    refine JL_all [] rfl ?_
    (repeat' (first | refine J_seq ?_ | refine J_skip ?_ | refine J_yes rfl ?_ | refine J_no rfl ?_))
    refine J_region ?_
    refine JL_run [] rfl ?_
    by_cases h0 : x < 0
    · refine JL_set 28 (v' := .bool true) rfl (congrArg Value.bool (cdec_yes h0)) ?_
      refine JL_all [2] rfl ?_
      refine J_yes rfl ?_
      (repeat' (first | refine J_seq ?_ | refine J_skip ?_ | refine J_yes rfl ?_ | refine J_no rfl ?_))
      refine J_region ?_
      refine JL_all [] rfl ?_
      refine J_drop [] (by decide) rfl (J_ret ⟨_, rfl, by rw [hbad (by omega)]; rfl, rfl⟩)
    refine JL_set 28 (v' := .bool false) rfl (congrArg Value.bool (cdec_no h0)) ?_
    refine JL_run [2] rfl ?_
    refine JL_val [2] (OpV_blk 0 rfl rfl rfl rfl) rfl ?_
    refine JL_run [2] rfl ?_
    refine JL_val [2] (idxN rfl rfl rfl rfl rfl (by omega)) rfl ?_
    refine JL_run [2] rfl ?_
    refine JL_val [2] (ldseg 1 rfl rfl rfl rfl hcap) rfl ?_
    refine JL_all [2] rfl ?_
    refine J_dec rfl (fun h1 => ?_) (fun h1 => J_skip ?_)
    · (repeat' (first | refine J_seq ?_ | refine J_skip ?_ | refine J_yes rfl ?_ | refine J_no rfl ?_))
      refine J_region ?_
      refine JL_all [] rfl ?_
      refine J_drop [] (by decide) rfl (J_ret ⟨_, rfl, by rw [hbad (by omega)]; rfl, rfl⟩)
    (repeat' (first | refine J_seq ?_ | refine J_skip ?_ | refine J_yes rfl ?_ | refine J_no rfl ?_))
    refine J_region ?_
    refine JL_all [] rfl ?_
    refine ⟨k + 1, [0, 1, 2], ⟨?_, rfl, rfl, rfl, trivial⟩, by decide, rfl, ⟨by omega, fun q hq => ?_⟩, by omega⟩
    · show some (Value.int .i64 (IntKind.i64.wrap ((k : Int) + 1))) = _
      rw [w64 (by omega)]; rfl
    · rw [List.take_add_one, hz] at hq
      rcases List.mem_append.1 hq with hq | hq
      · exact hall q hq
      · simp only [Option.toList_some, List.mem_singleton] at hq
        subst hq
        simp only; omega
  · have hk' : k = f.length := by omega
    subst hk'
    (repeat' (first | refine J_seq ?_ | refine J_skip ?_ | refine J_yes rfl ?_ | refine J_no rfl ?_))
    refine J_region ?_
    refine JL_all [] rfl ?_
    refine J_drop [] (by decide) rfl (J_ret ⟨_, rfl, ?_, rfl⟩)
    unfold withinZ
    rw [if_neg (by omega), if_pos (fun q hq => hall q (by rw [List.take_of_length_le (by simp; omega)]; exact hq))]
    rfl
def exZ (ps : List (Arc × Int)) (v : Int) : Int := (ps.map fun p => (if p.1.to = v then p.2 else 0) - (if p.1.fr = v then p.2 else 0)).sum
theorem exStep_get {l : List Int} {a : Arc} {f : Int} {B : Int} (hB : ∀ v : Nat, -B ≤ l.getD v 0 ∧ l.getD v 0 ≤ B) (hf : 0 ≤ f) (hb : B + f ≤ 9000000000000000000) (h1 : 0 ≤ a.fr ∧ a.fr < l.length) (h2 : 0 ≤ a.to ∧ a.to < l.length) (v : Nat) :
    (exStep l a f).getD v 0 = l.getD v 0 + ((if a.to = v then f else 0) - (if a.fr = v then f else 0)) := by
  obtain ⟨fr, to, cap⟩ := a
  obtain ⟨fr, rfl⟩ := Int.eq_ofNat_of_zero_le h1.1
  obtain ⟨to, rfl⟩ := Int.eq_ofNat_of_zero_le h2.1
  simp only [exStep, Int.toNat_natCast]
  have h1' : fr < l.length := by have := h1.2; simp only at this; omega
  have h2' : to < l.length := by have := h2.2; simp only at this; omega
  have hs1 : ∀ v, (l.set fr (IntKind.i64.wrap (l.getD fr 0 - f))).getD v 0 = l.getD v 0 - (if fr = v then f else 0) := by
    intro v
    by_cases h : fr = v
    · subst h
      have := hB fr
      rw [if_pos rfl, List.getD_eq_getElem?_getD, List.getElem?_set_self h1', Option.getD_some, w64 (by omega)]
    · rw [if_neg h, List.getD_eq_getElem?_getD, List.getElem?_set_ne h, List.getD_eq_getElem?_getD]; omega
  by_cases h : to = v
  · subst h
    have e1 := hs1 to
    have := hB to
    rw [List.getD_eq_getElem?_getD, List.getElem?_set_self (by simpa using h2'), Option.getD_some, e1, w64 (by split <;> omega)]
    simp only [Int.natCast_inj, if_true]
    omega
  · rw [List.getD_eq_getElem?_getD, List.getElem?_set_ne h, ← List.getD_eq_getElem?_getD, hs1 v]
    simp only [Int.natCast_inj]
    rw [if_neg h]
    omega
theorem fold_ex (n : Nat) : ∀ (ps : List (Arc × Int)) (l : List Int) (B : Int), l.length = n + 1 → (∀ v : Nat, -B ≤ l.getD v 0 ∧ l.getD v 0 ≤ B) → (∀ p ∈ ps, 0 ≤ p.2 ∧ (0 ≤ p.1.fr ∧ p.1.fr ≤ n) ∧ (0 ≤ p.1.to ∧ p.1.to ≤ n)) → B + (ps.map (·.2)).sum ≤ 9000000000000000000 →
    ∀ v : Nat, (ps.foldl (fun l p => exStep l p.1 p.2) l).getD v 0 = l.getD v 0 + exZ ps v
  | [], l, B, _, _, _, _, v => by simp [exZ]
  | p :: ps, l, B, hl, hB, hp, hs, v => by
    obtain ⟨p1, p2, p3⟩ := hp p (by simp)
    have hnn : 0 ≤ (ps.map (·.2)).sum := by
      have : ∀ (ps : List (Arc × Int)), (∀ p ∈ ps, 0 ≤ p.2) → 0 ≤ (ps.map (·.2)).sum := by
        intro ps
        induction ps with
        | nil => intro _; simp
        | cons q ps ih => intro h; have := ih fun a ha => h a (by simp [ha]); have := h q (by simp); simp only [List.map_cons, List.sum_cons]; omega
      exact this ps fun q hq => (hp q (by simp [hq])).1
    simp only [List.map_cons, List.sum_cons] at hs
    have hst := exStep_get (l := l) (a := p.1) (f := p.2) hB p1 (by omega) (by omega) (by omega)
    rw [List.foldl_cons, fold_ex n ps (exStep l p.1 p.2) (B + p.2) (by rw [exStep_length]; exact hl) (fun v => ?_) (fun q hq => hp q (by simp [hq])) (by omega) v, hst v]
    · simp only [exZ, List.map_cons, List.sum_cons]; omega
    · rw [hst v]
      have := hB v
      split <;> split <;> omega
theorem exc_val (n : Nat) (al : List Arc) (fs : List Int) (hp : ∀ p ∈ al.zip fs, 0 ≤ p.2 ∧ (0 ≤ p.1.fr ∧ p.1.fr ≤ n) ∧ (0 ≤ p.1.to ∧ p.1.to ≤ n)) (hs : ((al.zip fs).map (·.2)).sum ≤ 9000000000000000000) (v : Nat) : (exc n al fs).getD v 0 = exZ (al.zip fs) v := by
  unfold exc
  have h0 : ∀ v, (List.replicate (n + 1) (0 : Int)).getD v 0 = 0 := by
    intro v; rw [List.getD_eq_getElem?_getD, List.getElem?_replicate]; split <;> rfl
  rw [fold_ex n (al.zip fs) _ 0 (by simp) (fun v => by rw [h0]; omega) hp (by omega) v, h0]
  omega
structure Ranged (N : Net) (f : List Int) : Prop where
  len : f.length = N.arcs.length
  all : ∀ p ∈ N.arcs.zip f, 0 ≤ p.2 ∧ p.2 ≤ p.1.cap
theorem withinZ_zero {N : Net} {f : List Int} : withinZ N f = 0 ↔ Ranged N f := by
  unfold withinZ
  constructor
  · intro h
    split at h
    · simp at h
    · rename_i h1
      split at h
      · rename_i h2; exact ⟨by omega, h2⟩
      · simp at h
  · rintro ⟨h1, h2⟩
    rw [if_neg (by omega), if_pos h2]
theorem sum_zip_le : ∀ (al : List Arc) (fs : List Int), (∀ p ∈ al.zip fs, 0 ≤ p.2 ∧ p.2 ≤ p.1.cap) → (∀ a ∈ al, 0 ≤ a.cap) → ((al.zip fs).map (·.2)).sum ≤ (al.map (·.cap)).sum
  | [], _, _, _ => by simp
  | a :: al, [], _, h => by
    have := sum_zip_le al [] (by simp) fun a ha => h a (by simp [ha])
    have := h a (by simp)
    simp at *; omega
  | a :: al, f :: fs, hp, h => by
    have := sum_zip_le al fs (fun p hp' => hp p (by simp [hp'])) fun a ha => h a (by simp [ha])
    have := hp (a, f) (by simp)
    simp only [List.zip_cons_cons, List.map_cons, List.sum_cons] at *; omega
theorem Ranged.exc {N : Net} {f : List Int} (h : Ranged N f) (hR : N.Right) (n : Nat) (hn : N.nodes = n) (v : Nat) : (exc n N.arcs f).getD v 0 = exZ (N.arcs.zip f) v := by
  refine exc_val n N.arcs f (fun p hp => ?_) ?_ v
  · have h1 := h.all p hp
    have h2 := hR.arc p.1 (List.of_mem_zip hp).1
    exact ⟨h1.1, by omega, by omega⟩
  · have h1 := sum_zip_le N.arcs f h.all fun a ha => (hR.arc a ha).2.2
    have h2 := hR.sum
    omega
open Classical in
noncomputable def flowZ (N : Net) (f : List Int) : Int := if withinZ N f ≠ 0 then withinZ N f else if ∀ v : Int, 1 ≤ v ∧ v ≤ N.nodes → v ≠ N.src → v ≠ N.snk → exZ (N.arcs.zip f) v = 0 then 0 else 9
theorem flowZ_yes {N : Net} {f : List Int} (h : Ranged N f) (hz : ∀ v : Int, 1 ≤ v ∧ v ≤ N.nodes → v ≠ N.src → v ≠ N.snk → exZ (N.arcs.zip f) v = 0) : flowZ N f = 0 := by
  unfold flowZ; rw [if_neg (fun hc => hc (withinZ_zero.2 h)), if_pos hz]
theorem flowZ_no {N : Net} {f : List Int} (h : Ranged N f) (hz : ¬ ∀ v : Int, 1 ≤ v ∧ v ≤ N.nodes → v ≠ N.src → v ≠ N.snk → exZ (N.arcs.zip f) v = 0) : flowZ N f = 9 := by
  unfold flowZ; rw [if_neg (fun hc => hc (withinZ_zero.2 h)), if_neg hz]
structure IsFlow (N : Net) (f : List Int) : Prop extends Ranged N f where
  kept : ∀ v : Int, 1 ≤ v ∧ v ≤ N.nodes → v ≠ N.src → v ≠ N.snk → exZ (N.arcs.zip f) v = 0
theorem flowZ_zero {N : Net} {f : List Int} : flowZ N f = 0 ↔ IsFlow N f := by
  constructor
  · intro h
    by_cases hw : Ranged N f
    · refine ⟨hw, ?_⟩
      by_cases hz : ∀ v : Int, 1 ≤ v ∧ v ≤ N.nodes → v ≠ N.src → v ≠ N.snk → exZ (N.arcs.zip f) v = 0
      · exact hz
      · rw [flowZ_no hw hz] at h; simp at h
    · exfalso
      have h1 : withinZ N f ≠ 0 := fun h => hw (withinZ_zero.1 h)
      unfold flowZ at h; rw [if_pos h1] at h; exact h1 h
  · exact fun h => flowZ_yes h.toRanged h.kept
theorem fcheck_fn (N : Net) (hN : N.Fits) (hR : N.Right) (A : Option Addr) (c b o : Nat) (hA : N.arcs ≠ [] → A = some ⟨b, o, none⟩) (f : List Int) (F : Option Addr) (cf bf of : Nat) (hF : f ≠ [] → F = some ⟨bf, of, none⟩) (hf : ∀ x ∈ f, inB x) (hfl : f.length * 8 ≤ 140737488351232) :
    Fn 45 [netV N A c, .slice F f.length cf] [] [.seg b o (arcs N.arcs), .seg bf of (ints f)] fun v H' => v = .int .i64 (flowZ N f) ∧ H' = [] := by
  refine Fn_of Tryz.func45 rfl rfl fun w0 => ?_
  (repeat' (first | refine J_seq ?_ | refine J_skip ?_ | refine J_yes rfl ?_ | refine J_no rfl ?_))
  refine J_region ?_
  refine JL_box (cs := netC N A c) rfl rfl rfl (fun _ => rfl) fun p => ?_
  refine JL_all [] rfl ?_
  (repeat' (first | refine J_seq ?_ | refine J_skip ?_ | refine J_yes rfl ?_ | refine J_no rfl ?_))
  refine J_region ?_
  refine JL_val [] (v := netV N A c) (OpV_blk 0 rfl rfl rfl rfl) rfl ?_
  refine JL_run [] rfl ?_
  refine JL_callR [] (within_fn N hN hR A c b o hA f F cf bf of hF hf hfl) rfl rfl rfl rfl (by kernel_rfl) ⟨⟨1, _, by simp, rfl, shows_seg _ _ _, seen_seg⟩, ⟨2, _, by simp, rfl, shows_seg _ _ _, seen_seg⟩, trivial⟩ (fun _ => rfl) ?_
  rintro v H' ⟨rfl, rfl⟩
  refine ⟨rfl, ?_⟩
  refine JL_all [] rfl ?_
  (repeat' (first | refine J_seq ?_ | refine J_skip ?_ | refine J_yes rfl ?_ | refine J_no rfl ?_))
  refine J_region ?_
  refine JL_all [] rfl ?_
  refine J_dec rfl (fun h => ?_) (fun h => J_skip ?_)
  · (repeat' (first | refine J_seq ?_ | refine J_skip ?_ | refine J_yes rfl ?_ | refine J_no rfl ?_))
    refine J_region ?_
    refine JL_all [] rfl ?_
    refine J_drop [] (by decide) rfl (J_ret ⟨_, rfl, ?_, rfl⟩)
    unfold flowZ; rw [if_pos h]; rfl
  have hW : Ranged N f := withinZ_zero.1 (Classical.not_not.1 h)
  have hnn := hR.nodes
  obtain ⟨n, hn⟩ : ∃ n : Nat, N.nodes = n := ⟨N.nodes.toNat, by omega⟩
  have hX := hW.exc hR n hn
  have hXl := exc_length n N.arcs f
  have T := excesses_fn n N.src N.snk A F c cf b o bf of N.arcs f (by omega) hA (fun hne => hF (fun h0 => hne (by have := hW.len; rw [h0] at this; exact List.length_eq_zero_iff.1 this.symm))) hW.len hR.len (fun a ha => by have := hR.arc a ha; omega)
  rw [← hn] at T
  (repeat' (first | refine J_seq ?_ | refine J_skip ?_ | refine J_yes rfl ?_ | refine J_no rfl ?_))
  refine J_region ?_
  refine JL_val [] (v := netV N A c) (OpV_blk 0 rfl rfl rfl rfl) rfl ?_
  refine JL_run [] rfl ?_
  refine JL_callR [] T rfl rfl rfl (by rw [hW.len]; rfl) (by kernel_rfl) ⟨⟨1, _, by simp, rfl, shows_seg _ _ _, seen_seg⟩, ⟨2, _, by simp, rfl, shows_seg _ _ _, seen_seg⟩, trivial⟩ (fun _ => rfl) ?_
  rintro v H' ⟨g, rfl, rfl⟩
  refine ⟨rfl, ?_⟩
  refine JL_all [] rfl ?_
  obtain ⟨X, hXd⟩ : ∃ X, X = exc n N.arcs f := ⟨_, rfl⟩
  rw [← hXd] at hX hXl ⊢
  (repeat' (first | refine J_seq ?_ | refine J_skip ?_ | refine J_yes rfl ?_ | refine J_no rfl ?_))
  refine J_region ?_
  refine JL_run [] rfl ?_
  refine JL_val [] (OpV_blk 1 rfl rfl rfl rfl) rfl ?_
  refine JL_run [] rfl ?_
  refine JL_nil ?_
  rw [hn]
  refine J_block ?_
  refine J_loop (σ := Nat) (fun k => [(20, .int .i64 k), (19, .int .i64 n), (6, .slice (some ⟨g, 0, none⟩) (n + 1) (n + 1)), (2, .pointer (some ⟨p, 0, none⟩))])
    (fun k => [.own (.slice (some ⟨g, 0, none⟩) (n + 1) (n + 1)) 2 1 (n + 1) (ints X), blk p 24 (netC N A c)]) (fun k => k ≤ n ∧ ∀ v : Int, 1 ≤ v ∧ v ≤ k → v ≠ N.src → v ≠ N.snk → exZ (N.arcs.zip f) v = 0) (fun k => n - k)
    0 [0, 1] ⟨rfl, rfl, rfl, rfl, trivial⟩ (by decide) rfl ⟨Nat.zero_le _, fun v hv => by omega⟩ ?_
  rintro k ⟨hk, hall⟩
  (repeat' (first | refine J_seq ?_ | refine J_skip ?_ | refine J_yes rfl ?_ | refine J_no rfl ?_))
  refine J_region ?_
  refine JL_all [] rfl ?_
  refine J_seq (J_dec rfl (fun hlt => J_skip ?_) (fun hge => J_exit ?_))
  · have hlt : k < n := by omega
    refine J_seq (J_block ?_)
    (repeat' (first | refine J_seq ?_ | refine J_skip ?_ | refine J_yes rfl ?_ | refine J_no rfl ?_))
    refine J_region ?_
    refine JL_all [] rfl ?_
    (repeat' (first | refine J_seq ?_ | refine J_skip ?_ | refine J_yes rfl ?_ | refine J_no rfl ?_))
    refine J_region ?_
    refine JL_all [] rfl ?_
    refine J_set 8 (v' := .int .i64 ((k + 1 : Nat) : Int)) rfl (congrArg (Value.int .i64) (w64 (by omega))) ?_
    have hnext : (((k + 1 : Nat) : Int) ≠ N.src → ((k + 1 : Nat) : Int) ≠ N.snk → exZ (N.arcs.zip f) ((k + 1 : Nat) : Int) = 0) → ∀ v : Int, 1 ≤ v ∧ v ≤ ((k + 1 : Nat) : Int) → v ≠ N.src → v ≠ N.snk → exZ (N.arcs.zip f) v = 0 := by
      intro hz v hv h1 h2
      by_cases hvk : v ≤ k
      · exact hall v ⟨hv.1, hvk⟩ h1 h2
      · obtain rfl : v = ((k + 1 : Nat) : Int) := by omega
        exact hz h1 h2
    have hxk : ∃ x, X[k + 1]? = some x := ⟨X[k + 1]'(by omega), List.getElem?_eq_getElem (by omega)⟩
    obtain ⟨x, hx⟩ := hxk
    have hxv : x = exZ (N.arcs.zip f) ((k + 1 : Nat) : Int) := by
      have := hX (k + 1)
      rw [List.getD_eq_getElem?_getD, hx] at this
      exact this
    by_cases hz : ((k + 1 : Nat) : Int) ≠ N.src → ((k + 1 : Nat) : Int) ≠ N.snk → exZ (N.arcs.zip f) ((k + 1 : Nat) : Int) = 0
    · refine J_cut [(41, .bool false), (20, .int .i64 k), (19, .int .i64 n), (6, .slice (some ⟨g, 0, none⟩) (n + 1) (n + 1)), (2, .pointer (some ⟨p, 0, none⟩))]
        [.own (.slice (some ⟨g, 0, none⟩) (n + 1) (n + 1)) 2 1 (n + 1) (ints X), blk p 24 (netC N A c)] ?_ ?_
      · (repeat' (first | refine J_seq ?_ | refine J_skip ?_ | refine J_yes rfl ?_ | refine J_no rfl ?_))
        refine J_region ?_
        refine JL_run [] rfl ?_
        refine JL_val [] (OpV_blk 1 rfl rfl rfl rfl) rfl ?_
        refine JL_run [] rfl ?_
        by_cases h1 : ((k + 1 : Nat) : Int) = N.src
        · refine JL_set 29 (v' := .bool false) rfl (congrArg Value.bool (cdec_no (fun h => h h1))) ?_
          refine JL_all [4, 10] rfl ?_
          exact ⟨[0, 1], ⟨rfl, rfl, rfl, rfl, rfl, trivial⟩, by decide, rfl⟩
        refine JL_set 29 (v' := .bool true) rfl (congrArg Value.bool (cdec_yes h1)) ?_
        refine JL_run [4] rfl ?_
        refine JL_val [4] (OpV_blk 1 rfl rfl rfl rfl) rfl ?_
        refine JL_run [4] rfl ?_
        by_cases h2 : ((k + 1 : Nat) : Int) = N.snk
        · refine JL_set 35 (v' := .bool false) rfl (congrArg Value.bool (cdec_no (fun h => h h2))) ?_
          refine JL_all [4, 10] rfl ?_
          exact ⟨[0, 1], ⟨rfl, rfl, rfl, rfl, rfl, trivial⟩, by decide, rfl⟩
        refine JL_set 35 (v' := .bool true) rfl (congrArg Value.bool (cdec_yes h2)) ?_
        refine JL_run [4, 10] rfl ?_
        refine JL_val [4, 10] (idx1z rfl rfl rfl rfl rfl (by omega)) rfl ?_
        refine JL_val [4, 10] (OpV_own 0 rfl rfl rfl (readT_int hx)) rfl ?_
        refine JL_all [4, 10] rfl ?_
        exact ⟨[0, 1], ⟨congrArg some (congrArg Value.bool (cdec_no (fun h3 => h3 (hxv.trans (hz h1 h2))))), rfl, rfl, rfl, rfl, trivial⟩, by decide, rfl⟩
      · refine J_no rfl (J_skip ?_)
        (repeat' (first | refine J_seq ?_ | refine J_skip ?_ | refine J_yes rfl ?_ | refine J_no rfl ?_))
        refine J_region ?_
        refine JL_all [] rfl ?_
        refine ⟨k + 1, [0, 1], ⟨?_, rfl, rfl, rfl, trivial⟩, by decide, rfl, ⟨by omega, hnext hz⟩, by omega⟩
        show some (Value.int .i64 (IntKind.i64.wrap ((k : Int) + 1))) = _
        rw [w64 (by omega)]; rfl
    · have h1 : ((k + 1 : Nat) : Int) ≠ N.src := fun e => hz (fun h => absurd e h)
      have h2 : ((k + 1 : Nat) : Int) ≠ N.snk := fun e => hz (fun _ h => absurd e h)
      have h3 : x ≠ 0 := fun e => hz (fun _ _ => hxv.symm.trans e)
      (repeat' (first | refine J_seq ?_ | refine J_skip ?_ | refine J_yes rfl ?_ | refine J_no rfl ?_))
      refine J_region ?_
      refine JL_run [] rfl ?_
      refine JL_val [] (OpV_blk 1 rfl rfl rfl rfl) rfl ?_
      refine JL_run [] rfl ?_
      refine JL_set 29 (v' := .bool true) rfl (congrArg Value.bool (cdec_yes h1)) ?_
      refine JL_run [4] rfl ?_
      refine JL_val [4] (OpV_blk 1 rfl rfl rfl rfl) rfl ?_
      refine JL_run [4] rfl ?_
      refine JL_set 35 (v' := .bool true) rfl (congrArg Value.bool (cdec_yes h2)) ?_
      refine JL_run [4, 10] rfl ?_
      refine JL_val [4, 10] (idx1z rfl rfl rfl rfl rfl (by omega)) rfl ?_
      refine JL_val [4, 10] (OpV_own 0 rfl rfl rfl (readT_int hx)) rfl ?_
      refine JL_all [4, 10] rfl ?_
      refine J_dec rfl (fun _ => ?_) (fun h => absurd h3 h)
      (repeat' (first | refine J_seq ?_ | refine J_skip ?_ | refine J_yes rfl ?_ | refine J_no rfl ?_))
      refine J_region ?_
      refine JL_all [] rfl ?_
      refine J_drop [] (by decide) rfl (J_ret ⟨_, rfl, ?_, rfl⟩)
      rw [flowZ_no hW (fun hall => hz (hall _ (by omega)))]; rfl
  · (repeat' (first | refine J_seq ?_ | refine J_skip ?_ | refine J_yes rfl ?_ | refine J_no rfl ?_))
    refine J_region ?_
    refine JL_all [] rfl ?_
    refine J_drop [] (by decide) rfl (J_ret ⟨_, rfl, ?_, rfl⟩)
    rw [flowZ_yes hW (fun v hv => hall v (by omega))]; rfl
theorem fvalue_fn (N : Net) (hN : N.Fits) (hR : N.Right) (A : Option Addr) (c b o : Nat) (hA : N.arcs ≠ [] → A = some ⟨b, o, none⟩) (f : List Int) (F : Option Addr) (cf bf of : Nat) (hF : f ≠ [] → F = some ⟨bf, of, none⟩) (hf : ∀ x ∈ f, inB x) (hfl : f.length * 8 ≤ 140737488351232) :
    Fn 26 [netV N A c, .slice F f.length cf] [] [.seg b o (arcs N.arcs), .seg bf of (ints f)] fun v H' => (v = two (exZ (N.arcs.zip f) N.snk, 0) ∧ IsFlow N f ∨ v = two (0, flowZ N f) ∧ ¬ IsFlow N f) ∧ H' = [] := by
  refine Fn_of Tryz.func26 rfl rfl fun w0 => ?_
  (repeat' (first | refine J_seq ?_ | refine J_skip ?_ | refine J_yes rfl ?_ | refine J_no rfl ?_))
  refine J_region ?_
  refine JL_box (cs := netC N A c) rfl rfl rfl (fun _ => rfl) fun p => ?_
  refine JL_all [] rfl ?_
  (repeat' (first | refine J_seq ?_ | refine J_skip ?_ | refine J_yes rfl ?_ | refine J_no rfl ?_))
  refine J_region ?_
  refine JL_val [] (v := netV N A c) (OpV_blk 0 rfl rfl rfl rfl) rfl ?_
  refine JL_run [] rfl ?_
  refine JL_callR [] (fcheck_fn N hN hR A c b o hA f F cf bf of hF hf hfl) rfl rfl rfl rfl (by kernel_rfl) ⟨⟨1, _, by simp, rfl, shows_seg _ _ _, seen_seg⟩, ⟨2, _, by simp, rfl, shows_seg _ _ _, seen_seg⟩, trivial⟩ (fun _ => rfl) ?_
  rintro v H' ⟨rfl, rfl⟩
  refine ⟨rfl, ?_⟩
  refine JL_all [] rfl ?_
  (repeat' (first | refine J_seq ?_ | refine J_skip ?_ | refine J_yes rfl ?_ | refine J_no rfl ?_))
  refine J_region ?_
  refine JL_all [] rfl ?_
  refine J_dec rfl (fun h => ?_) (fun h => J_skip ?_)
  · (repeat' (first | refine J_seq ?_ | refine J_skip ?_ | refine J_yes rfl ?_ | refine J_no rfl ?_))
    refine J_region ?_
    refine JL_all [] rfl ?_
    refine J_drop [] (by decide) rfl (J_ret ⟨_, rfl, .inr ⟨rfl, fun hf => h (flowZ_zero.2 hf)⟩, rfl⟩)
  have hW : IsFlow N f := flowZ_zero.1 (Classical.not_not.1 h)
  have hnn := hR.nodes
  have hsk := hR.snk
  obtain ⟨n, hn⟩ : ∃ n : Nat, N.nodes = n := ⟨N.nodes.toNat, by omega⟩
  obtain ⟨s, hs⟩ : ∃ s : Nat, N.snk = s := ⟨N.snk.toNat, by omega⟩
  have hX := hW.toRanged.exc hR n hn s
  have hXl := exc_length n N.arcs f
  have T := excesses_fn n N.src N.snk A F c cf b o bf of N.arcs f (by omega) hA (fun hne => hF (fun h0 => hne (by have := hW.len; rw [h0] at this; exact List.length_eq_zero_iff.1 this.symm))) hW.len hR.len (fun a ha => by have := hR.arc a ha; omega)
  rw [← hn] at T
  obtain ⟨x, hx⟩ : ∃ x, (exc n N.arcs f)[s]? = some x := ⟨(exc n N.arcs f)[s]'(by omega), List.getElem?_eq_getElem (by omega)⟩
  have hxv : x = exZ (N.arcs.zip f) N.snk := by
    rw [List.getD_eq_getElem?_getD, hx] at hX
    rw [hs]; exact hX
  (repeat' (first | refine J_seq ?_ | refine J_skip ?_ | refine J_yes rfl ?_ | refine J_no rfl ?_))
  refine J_walk 9 [(0, true), (1, true), (3, true), (4, true), (2, false), (5, true), (6, false), (7, true), (8, true)] [0] (by kernel_rfl) (by decide) rfl ?_
  refine JW_still [] rfl (v := netV N A c) (OpV_blk 0 rfl rfl rfl rfl) rfl ?_
  refine JW_run [] rfl ?_
  refine JW_still [] rfl (OpV_blk 0 rfl rfl rfl rfl) rfl ?_
  refine JW_eff rfl ?_
  refine JL_callR [] T rfl rfl rfl (by rw [hW.len]; rfl) (by kernel_rfl) ⟨⟨1, _, by simp, rfl, shows_seg _ _ _, seen_seg⟩, ⟨2, _, by simp, rfl, shows_seg _ _ _, seen_seg⟩, trivial⟩ (fun _ => rfl) ?_
  rintro v H' ⟨g, rfl, rfl⟩
  refine ⟨rfl, JL_nil ⟨⟨[1], by decide, rfl⟩, ?_⟩⟩
  refine JW_set 17 (v' := .int .i64 s) rfl (congrArg (Value.int .i64) hs) ?_
  refine JW_still [] rfl (idx1z rfl rfl rfl rfl rfl (by omega)) rfl ?_
  refine JW_eff rfl ?_
  refine JL_val [] (OpV_own 0 rfl rfl rfl (readT_int hx)) rfl ?_
  refine JL_nil ⟨⟨[1], by decide, rfl⟩, ?_⟩
  refine JW_all [] rfl ?_
  refine JL_nil ?_
  exact J_drop [] (by decide) rfl (J_ret ⟨_, rfl, .inl ⟨by rw [hxv]; rfl, hW⟩, rfl⟩)
end Go.Proofs.YtfogkbmbmaganaaGreat


/- What room a flow leaves. -/
set_option linter.unusedVariables false
set_option linter.unusedSimpArgs false
namespace Go.Proofs.YtfogkbmbmaganaaGreat
open Go.RowKit
theorem and_one (n : Int) : IntKind.i64.wrap ((BitVec.ofInt IntKind.i64.bits n &&& BitVec.ofInt IntKind.i64.bits 1).toNat : Int) = n % 2 := by
  have h : (BitVec.ofInt IntKind.i64.bits n &&& BitVec.ofInt IntKind.i64.bits 1).toNat = (n % 2).toNat := by
    rw [BitVec.toNat_and, BitVec.toNat_ofInt, BitVec.toNat_ofInt]
    have e1 : ((1 : Int) % ((2 ^ IntKind.i64.bits : Nat) : Int)).toNat = 1 := by decide
    rw [e1, Nat.and_one_is_mod]
    have e2 : ((2 ^ IntKind.i64.bits : Nat) : Int) = 18446744073709551616 := by decide
    rw [e2]
    omega
  rw [h, w64 (by omega)]
  omega
def endsOf (a : Arc) (r : Nat) : Int × Int := if r % 2 = 1 then (a.to, a.fr) else (a.fr, a.to)
def endsZ (N : Net) (r : Nat) : Int × Int := match N.arcs[r / 2]? with
  | some a => endsOf a r
  | none => (0, 0)
theorem ends_fn (N : Net) (A : Option Addr) (c b o : Nat) (hA : N.arcs ≠ [] → A = some ⟨b, o, none⟩) (hl : N.arcs.length ≤ 2000) (r : Nat) (hr : r < 2 * N.arcs.length) :
    Fn 90 [netV N A c, .int .i64 r] [] [.seg b o (arcs N.arcs)] fun v H' => v = two (endsZ N r) ∧ H' = [] := by
  obtain rfl := hA (by intro h; rw [h] at hr; simp at hr)
  obtain ⟨a, ha⟩ : ∃ a, N.arcs[r / 2]? = some a := ⟨N.arcs[r / 2]'(by omega), List.getElem?_eq_getElem (by omega)⟩
  have he : endsZ N r = endsOf a r := by unfold endsZ; rw [ha]
  have hq : IntKind.i64.wrap ((r : Int).tdiv 2) = ((r / 2 : Nat) : Int) := by rw [w64 (by rw [Int.tdiv_eq_ediv_of_nonneg (by omega)]; omega), Int.tdiv_eq_ediv_of_nonneg (by omega)]; omega
  rw [he]
  refine Fn_of Tryz.func90 rfl rfl fun w0 => ?_
  (repeat' (first | refine J_seq ?_ | refine J_skip ?_ | refine J_yes rfl ?_ | refine J_no rfl ?_))
  refine J_region ?_
  refine JL_box (cs := netC N (some ⟨b, o, none⟩) c) rfl rfl rfl (fun _ => rfl) fun p => ?_
  refine JL_all [] rfl ?_
  (repeat' (first | refine J_seq ?_ | refine J_skip ?_ | refine J_yes rfl ?_ | refine J_no rfl ?_))
  refine J_region ?_
  refine JL_run [] rfl ?_
  refine JL_set 9 (v' := .bool false) rfl (congrArg Value.bool (cdec_no (by omega))) ?_
  refine JL_run [2] rfl ?_
  refine JL_set 11 (v' := .int .i64 ((r / 2 : Nat) : Int)) rfl (congrArg (Value.int .i64) hq) ?_
  refine JL_val [2] (OpV_blk 0 rfl rfl rfl rfl) rfl ?_
  refine JL_all [2] rfl ?_
  refine J_dec rfl (fun h => absurd h (by omega)) (fun _ => J_skip ?_)
  (repeat' (first | refine J_seq ?_ | refine J_skip ?_ | refine J_yes rfl ?_ | refine J_no rfl ?_))
  refine J_region ?_
  refine JL_run [] rfl ?_
  refine JL_val [] (OpV_blk 0 rfl rfl rfl rfl) rfl ?_
  refine JL_run [] rfl ?_
  refine JL_set 20 (v' := .int .i64 ((r / 2 : Nat) : Int)) rfl (congrArg (Value.int .i64) hq) ?_
  refine JL_val [] (idxN rfl rfl rfl rfl rfl (by omega)) rfl ?_
  refine JL_val [] (ldseg 1 rfl rfl rfl rfl (readT_arc ha)) rfl ?_
  refine JL_alloc rfl rfl rfl (fun _ => rfl) fun q => ?_
  refine JL_store 0 rfl rfl rfl rfl rfl [] rfl ?_
  refine JL_nil ?_
  refine J_cut [(6, .pointer (some ⟨q, 0, none⟩))] [blk q 62 [.int .i64 (endsOf a r).1, .int .i64 (endsOf a r).2, .int .i64 a.cap]] ?_ ?_
  · (repeat' (first | refine J_seq ?_ | refine J_skip ?_ | refine J_yes rfl ?_ | refine J_no rfl ?_))
    refine J_region ?_
    refine JL_all [] rfl ?_
    have hand : IntKind.i64.wrap ((BitVec.ofInt IntKind.i64.bits (r : Int) &&& BitVec.ofInt IntKind.i64.bits 1).toNat : Int) = (r : Int) % 2 := and_one r
    refine J_dec rfl (fun h => ?_) (fun h => J_skip ?_)
    · rw [hand] at h
      have e : endsOf a r = (a.to, a.fr) := by unfold endsOf; rw [if_pos (by omega)]
      rw [e]
      refine J_region (JL_run [] rfl ?_)
      refine JL_val [] (OpV_blk 0 rfl rfl rfl rfl) rfl ?_
      refine JL_run [] rfl ?_
      refine JL_val [] (OpV_blk 0 rfl rfl rfl rfl) rfl ?_
      refine JL_run [] rfl ?_
      refine JL_store 0 rfl rfl rfl rfl rfl [] rfl ?_
      refine JL_run [] rfl ?_
      refine JL_store 0 rfl rfl rfl rfl rfl [] rfl ?_
      refine JL_nil ?_
      exact ⟨[0], ⟨rfl, trivial⟩, by decide, rfl⟩
    · rw [hand] at h
      have e : endsOf a r = (a.fr, a.to) := by unfold endsOf; rw [if_neg (by omega)]
      rw [e]
      exact ⟨[0], ⟨rfl, trivial⟩, by decide, rfl⟩
  · (repeat' (first | refine J_seq ?_ | refine J_skip ?_ | refine J_yes rfl ?_ | refine J_no rfl ?_))
    refine J_walk 6 [(0, true), (1, true), (2, true), (3, true), (4, true), (5, true)] [0] (by kernel_rfl) (by decide) rfl ?_
    refine JW_run [] rfl ?_
    refine JW_still [] rfl (OpV_blk 0 rfl rfl rfl rfl) rfl ?_
    refine JW_run [] rfl ?_
    refine JW_still [] rfl (OpV_blk 0 rfl rfl rfl rfl) rfl ?_
    refine JW_all [] rfl ?_
    refine JL_nil ?_
    exact J_drop [] (by decide) rfl (J_ret ⟨_, rfl, rfl, rfl⟩)
def roomL (ps : List (Arc × Int)) : List Int := ps.flatMap fun p => [p.1.cap - p.2, p.2]
theorem roomL_length (ps : List (Arc × Int)) : (roomL ps).length = 2 * ps.length := by
  induction ps with
  | nil => rfl
  | cons p ps ih =>
    have e : roomL (p :: ps) = [p.1.cap - p.2, p.2] ++ roomL ps := by simp [roomL]
    rw [e, List.length_append, ih]; simp; omega
theorem roomL_succ {ps : List (Arc × Int)} {k : Nat} {p : Arc × Int} (h : ps[k]? = some p) : roomL (ps.take (k + 1)) = roomL (ps.take k) ++ [p.1.cap - p.2, p.2] := by
  rw [List.take_add_one, h]
  simp [roomL]
theorem room_fn (N : Net) (hN : N.Fits) (hR : N.Right) (A : Option Addr) (c b o : Nat) (hA : N.arcs ≠ [] → A = some ⟨b, o, none⟩) (f : List Int) (F : Option Addr) (cf bf of : Nat) (hF : f ≠ [] → F = some ⟨bf, of, none⟩) (hf : ∀ x ∈ f, inB x) (hfl : f.length * 8 ≤ 140737488351232) :
    Fn 89 [netV N A c, .slice F f.length cf] [] [.seg b o (arcs N.arcs), .seg bf of (ints f)] fun v H' =>
      (IsFlow N f ∧ ∃ A' c', v = .tuple #[.slice A' (2 * N.arcs.length) c', .int .i64 0] ∧ H' = [.own (.slice A' (2 * N.arcs.length) c') 2 1 (2 * N.arcs.length) (ints (roomL (N.arcs.zip f)))]) ∨
      (¬ IsFlow N f ∧ v = .tuple #[.slice none 0 0, .int .i64 (flowZ N f)] ∧ H' = []) := by
  refine Fn_of Tryz.func89 rfl rfl fun w0 => ?_
  (repeat' (first | refine J_seq ?_ | refine J_skip ?_ | refine J_yes rfl ?_ | refine J_no rfl ?_))
  refine J_region ?_
  refine JL_box (cs := netC N A c) rfl rfl rfl (fun _ => rfl) fun p => ?_
  refine JL_all [] rfl ?_
  (repeat' (first | refine J_seq ?_ | refine J_skip ?_ | refine J_yes rfl ?_ | refine J_no rfl ?_))
  refine J_region ?_
  refine JL_val [] (v := netV N A c) (OpV_blk 0 rfl rfl rfl rfl) rfl ?_
  refine JL_run [] rfl ?_
  refine JL_callR [] (fcheck_fn N hN hR A c b o hA f F cf bf of hF hf hfl) rfl rfl rfl rfl (by kernel_rfl) ⟨⟨1, _, by simp, rfl, shows_seg _ _ _, seen_seg⟩, ⟨2, _, by simp, rfl, shows_seg _ _ _, seen_seg⟩, trivial⟩ (fun _ => rfl) ?_
  rintro v H' ⟨rfl, rfl⟩
  refine ⟨rfl, ?_⟩
  refine JL_all [] rfl ?_
  (repeat' (first | refine J_seq ?_ | refine J_skip ?_ | refine J_yes rfl ?_ | refine J_no rfl ?_))
  refine J_region ?_
  refine JL_all [] rfl ?_
  refine J_dec rfl (fun h => ?_) (fun h => J_skip ?_)
  · (repeat' (first | refine J_seq ?_ | refine J_skip ?_ | refine J_yes rfl ?_ | refine J_no rfl ?_))
    refine J_region ?_
    refine JL_all [] rfl ?_
    refine J_drop [] (by decide) rfl (J_ret ⟨_, rfl, .inr ⟨fun hf => h (flowZ_zero.2 hf), rfl, rfl⟩⟩)
  have hW : IsFlow N f := flowZ_zero.1 (Classical.not_not.1 h)
  have hlen := hW.len
  have hl2 := hR.len
  (repeat' (first | refine J_seq ?_ | refine J_skip ?_ | refine J_yes rfl ?_ | refine J_no rfl ?_))
  refine J_region ?_
  refine JL_run [] rfl ?_
  refine JL_set 18 (v' := .int .i64 ((2 * f.length : Nat) : Int)) rfl (congrArg (Value.int .i64) ((w64 (n := 2 * (f.length : Int)) (by omega)).trans (by omega))) ?_
  refine JL_make (n := 0) (c := 2 * f.length) rfl rfl rfl rfl rfl rfl (by omega) (by omega) (by omega) (fun _ => rfl) fun g => ?_
  refine JL_all [] rfl ?_
  (repeat' (first | refine J_seq ?_ | refine J_skip ?_ | refine J_yes rfl ?_ | refine J_no rfl ?_))
  refine J_region ?_
  refine JL_all [] rfl ?_
  refine J_block ?_
  refine J_loop (σ := Nat × Option Addr × Nat) (fun s => [(22, .int .i64 s.1), (21, .int .i64 f.length), (20, .slice F f.length cf), (7, .slice s.2.1 (2 * s.1) s.2.2), (2, .pointer (some ⟨p, 0, none⟩))])
    (fun s => [.own (.slice s.2.1 (2 * s.1) s.2.2) 2 1 (2 * s.1) (ints (roomL ((N.arcs.zip f).take s.1))), blk p 24 (netC N A c), .seg b o (arcs N.arcs), .seg bf of (ints f)]) (fun s => s.1 ≤ f.length) (fun s => f.length - s.1)
    (0, some ⟨g, 0, none⟩, 2 * f.length) [0, 1, 2, 3] ⟨rfl, rfl, rfl, rfl, rfl, trivial⟩ (by decide) ?_ (Nat.zero_le _) ?_
  · rw [show made [Value.int .i64 0] (0 * 1) = [] from List.length_eq_zero_iff.1 (made_length _ _)]
    show picks _ _ = some [.own (.slice (some ⟨g, 0, none⟩) 0 (2 * f.length)) 2 1 0 (ints (roomL ((N.arcs.zip f).take 0))), blk p 24 (netC N A c), .seg b o (arcs N.arcs), .seg bf of (ints f)]
    rw [List.take_zero]
    rfl
  rintro ⟨k, A1, c1⟩ hk
  simp only at hk ⊢
  (repeat' (first | refine J_seq ?_ | refine J_skip ?_ | refine J_yes rfl ?_ | refine J_no rfl ?_))
  refine J_region ?_
  refine JL_all [] rfl ?_
  refine J_seq (J_dec rfl (fun hlt => J_skip ?_) (fun hge => J_exit ?_))
  · have hlt : k < f.length := by omega
    obtain rfl := hF (by rintro rfl; simp at hlt)
    obtain rfl := hA (by intro h; have h0 : N.arcs.length = 0 := by rw [h]; rfl
                         omega)
    obtain ⟨x, hx⟩ : ∃ x, f[k]? = some x := ⟨f[k], List.getElem?_eq_getElem hlt⟩
    obtain ⟨a, ha⟩ : ∃ a, N.arcs[k]? = some a := ⟨N.arcs[k], List.getElem?_eq_getElem (by omega)⟩
    obtain ⟨_, _, hcap⟩ := arcs_get ha
    have hz : (N.arcs.zip f)[k]? = some (a, x) := by simp [List.getElem?_zip_eq_some, ha, hx]
    have hb := hW.all _ (List.mem_of_getElem? hz)
    have hB := (hN.arc a (List.mem_of_getElem? ha)).2.2
    simp only at hb
    unfold inB at hB
    refine J_seq (J_block ?_)
    (repeat' (first | refine J_seq ?_ | refine J_skip ?_ | refine J_yes rfl ?_ | refine J_no rfl ?_))
    refine J_region ?_
    refine JL_run [] rfl ?_
    refine JL_val [] (idx1 rfl rfl rfl rfl rfl hlt) rfl ?_
    refine JL_val [] (ldseg 3 rfl rfl rfl rfl (readT_int hx)) rfl ?_
    refine JL_all [] rfl ?_
    (repeat' (first | refine J_seq ?_ | refine J_skip ?_ | refine J_yes rfl ?_ | refine J_no rfl ?_))
    refine J_region ?_
    refine JL_run [] rfl ?_
    refine JL_val [] (OpV_blk 1 rfl rfl rfl rfl) rfl ?_
    refine JL_run [] rfl ?_
    refine JL_val [] (idxN rfl rfl rfl rfl rfl (by omega)) rfl ?_
    refine JL_run [] rfl ?_
    refine JL_val [] (ldseg 2 rfl rfl rfl rfl hcap) rfl ?_
    refine JL_run [] rfl ?_
    refine JL_set 35 (v' := .int .i64 (a.cap - x)) rfl (congrArg (Value.int .i64) (w64 (by omega))) ?_
    refine JL_lit rfl rfl rfl rfl rfl rfl rfl (fun _ => rfl) fun g2 => ?_
    refine JL_appendS (n := 2 * k) (m := 2) (off := 0) (news := [.int .i64 (a.cap - x), .int .i64 x]) 1 0 rfl rfl rfl rfl rfl rfl (by decide) rfl rfl (shows_blk g2 _ _ (0, 0)) (fun _ => rfl) rfl rfl (by omega) (by omega) (fun _ _ => rfl) fun A2 c2 => ?_
    refine JL_all [] rfl ?_
    (repeat' (first | refine J_seq ?_ | refine J_skip ?_ | refine J_yes rfl ?_ | refine J_no rfl ?_))
    refine J_region ?_
    refine JL_all [] rfl ?_
    refine ⟨(k + 1, A2, c2), [1, 2, 3, 4], ⟨?_, rfl, rfl, rfl, rfl, trivial⟩, by decide, ?_, by simp only; omega, by simp only; omega⟩
    · show some (Value.int .i64 (IntKind.i64.wrap ((k : Int) + 1))) = _
      rw [w64 (by omega)]; rfl
    · simp only [roomL_succ hz]
      rw [show ints (roomL ((N.arcs.zip f).take k) ++ [a.cap - x, x]) = ints (roomL ((N.arcs.zip f).take k)) ++ [.int .i64 (a.cap - x), .int .i64 x] by simp [ints]]
      rfl
  · have hk' : k = N.arcs.length := by omega
    subst hk'
    rw [List.take_of_length_le (by simp; omega)]
    (repeat' (first | refine J_seq ?_ | refine J_skip ?_ | refine J_yes rfl ?_ | refine J_no rfl ?_))
    refine J_region ?_
    refine JL_all [] rfl ?_
    refine J_drop [0] (by decide) rfl (J_ret ⟨_, rfl, .inl ⟨hW, A1, c1, rfl, rfl⟩⟩)
end Go.Proofs.YtfogkbmbmaganaaGreat


/- Where one comes, by tracks that have room. -/
set_option linter.unusedVariables false
set_option linter.unusedSimpArgs false
namespace Go.Proofs.YtfogkbmbmaganaaGreat
open Go.RowKit
theorem endsZ_in {N : Net} (hR : N.Right) {r : Nat} (hr : r < 2 * N.arcs.length) : (1 ≤ (endsZ N r).1 ∧ (endsZ N r).1 ≤ N.nodes) ∧ (1 ≤ (endsZ N r).2 ∧ (endsZ N r).2 ≤ N.nodes) := by
  obtain ⟨a, ha⟩ : ∃ a, N.arcs[r / 2]? = some a := ⟨N.arcs[r / 2]'(by omega), List.getElem?_eq_getElem (by omega)⟩
  have h := hR.arc a (List.mem_of_getElem? ha)
  unfold endsZ; rw [ha]
  unfold endsOf; simp only
  split <;> exact ⟨by omega, by omega⟩
def tr (N : Net) (k : Nat) (v : Nat) : List Int := ((List.range k).filter fun (r : Nat) => decide ((endsZ N r).1 = (v : Int))).map fun (r : Nat) => (r : Int)
theorem tr_succ (N : Net) (k v : Nat) : tr N (k + 1) v = tr N k v ++ (if (endsZ N k).1 = (v : Int) then [(k : Int)] else []) := by
  unfold tr
  rw [List.range_succ, List.filter_append, List.map_append]
  congr 1
  by_cases h : (endsZ N k).1 = (v : Int) <;> simp [h]
theorem tr_length (N : Net) (k v : Nat) : (tr N k v).length ≤ k := by
  unfold tr
  rw [List.length_map]
  exact Nat.le_trans (List.length_filter_le _ _) (by simp)
theorem mem_tr {N : Net} {k v : Nat} {x : Int} : x ∈ tr N k v ↔ ∃ r : Nat, r < k ∧ (endsZ N r).1 = (v : Int) ∧ x = r := by
  unfold tr
  simp only [List.mem_map, List.mem_filter, List.mem_range, decide_eq_true_eq]
  constructor
  · rintro ⟨r, ⟨h1, h2⟩, rfl⟩; exact ⟨r, h1, h2, rfl⟩
  · rintro ⟨r, h1, h2, rfl⟩; exact ⟨r, ⟨h1, h2⟩, rfl⟩
end Go.Proofs.YtfogkbmbmaganaaGreat
