/- The engine and the words that all chapters share: several texts in one. -/
import Derived.Test.YtkiadfpkgpgbiaaGreatDoorQB
import Derived.Test.YtkiadfpkgpgbiaaGreatDoorQA

/- What 'Check' tells. -/
set_option linter.unusedVariables false
set_option linter.unusedSimpArgs false
namespace Go.Proofs.YtkiadfpkgpgbiaaGreatDoor
open Go.RowKit
structure Net.Fits (N : Net) : Prop where
  nodes : inB N.nodes
  src : inB N.src
  snk : inB N.snk
  len : N.arcs.length * 24 ≤ 140737488351232
  arc : ∀ a ∈ N.arcs, inB a.fr ∧ inB a.to ∧ inB a.cap
theorem check_fn (N : Net) (hN : N.Fits) (A : Option Addr) (c b o : Nat) (hA : N.arcs ≠ [] → A = some ⟨b, o, none⟩) : Fn 14 [netV N A c] [] [.seg b o (arcs N.arcs)] fun v H' => v = .int .i64 (checkZ N) ∧ H' = [] := by
  have hln := hN.len
  refine Fn_of Tryz.func14 rfl rfl fun w0 => ?_
  (repeat' (first | refine J_seq ?_ | refine J_skip ?_ | refine J_yes rfl ?_ | refine J_no rfl ?_))
  refine J_region ?_
  refine JL_box (cs := netC N A c) rfl rfl rfl (fun _ => rfl) fun p => ?_
  refine JL_all [] rfl ?_
  (repeat' (first | refine J_seq ?_ | refine J_skip ?_ | refine J_yes rfl ?_ | refine J_no rfl ?_))
  refine J_region ?_
  refine JL_all [] rfl ?_
  (repeat' (first | refine J_seq ?_ | refine J_skip ?_ | refine J_yes rfl ?_ | refine J_no rfl ?_))
  refine J_block ?_
  (repeat' (first | refine J_seq ?_ | refine J_skip ?_ | refine J_yes rfl ?_ | refine J_no rfl ?_))
  refine J_region ?_
  refine JL_run [] rfl ?_
  refine JL_val [] (OpV_blk 0 rfl rfl rfl rfl) rfl ?_
  refine JL_run [] rfl ?_
  by_cases h1 : N.nodes < 2
  · refine JL_set 14 (v' := .bool true) rfl (congrArg Value.bool (cdec_yes h1)) ?_
    refine JL_all [3] rfl ?_
    refine J_yes rfl ?_
    (repeat' (first | refine J_seq ?_ | refine J_skip ?_ | refine J_yes rfl ?_ | refine J_no rfl ?_))
    refine J_region ?_
    refine JL_all [] rfl ?_
    refine J_drop [] (by decide) rfl (J_ret ⟨_, rfl, ?_, rfl⟩)
    unfold checkZ; rw [if_pos (.inl h1)]; rfl
  refine JL_set 14 (v' := .bool false) rfl (congrArg Value.bool (cdec_no h1)) ?_
  refine JL_run [3] rfl ?_
  refine JL_val [3] (OpV_blk 0 rfl rfl rfl rfl) rfl ?_
  refine JL_all [3] rfl ?_
  refine J_dec rfl (fun h2 => ?_) (fun h2 => ?_)
  · (repeat' (first | refine J_seq ?_ | refine J_skip ?_ | refine J_yes rfl ?_ | refine J_no rfl ?_))
    refine J_region ?_
    refine JL_all [] rfl ?_
    refine J_drop [] (by decide) rfl (J_ret ⟨_, rfl, ?_, rfl⟩)
    unfold checkZ; rw [if_pos (.inr h2)]; rfl
  have c1 : ¬ (N.nodes < 2 ∨ 500 < N.nodes) := by omega
  (repeat' (first | refine J_seq ?_ | refine J_skip ?_ | refine J_yes rfl ?_ | refine J_no rfl ?_))
  refine J_region ?_
  refine JL_run [] rfl ?_
  refine JL_val [] (OpV_blk 0 rfl rfl rfl rfl) rfl ?_
  refine JL_callR [] (there_fn N A c p N.src) rfl rfl rfl rfl (by kernel_rfl) ⟨⟨0, _, by simp, rfl, shows_blk _ _ _ (0, 0), .inr rfl⟩, trivial⟩ (fun _ => rfl) ?_
  rintro v H' ⟨rfl, rfl⟩
  refine ⟨rfl, ?_⟩
  refine JL_run [] rfl ?_
  by_cases h3 : there N N.src
  case neg =>
    refine JL_set 25 (v' := .bool true) rfl (congrArg Value.bool (by rw [cdec_no h3]; rfl)) ?_
    refine JL_all [5] rfl ?_
    refine J_yes rfl ?_
    (repeat' (first | refine J_seq ?_ | refine J_skip ?_ | refine J_yes rfl ?_ | refine J_no rfl ?_))
    refine J_region ?_
    refine JL_all [] rfl ?_
    refine J_drop [] (by decide) rfl (J_ret ⟨_, rfl, ?_, rfl⟩)
    unfold checkZ; rw [if_neg c1, if_pos (fun hc => h3 hc.1)]; rfl
  refine JL_set 25 (v' := .bool false) rfl (congrArg Value.bool (by rw [cdec_yes h3]; rfl)) ?_
  refine JL_run [5] rfl ?_
  refine JL_val [5] (OpV_blk 0 rfl rfl rfl rfl) rfl ?_
  refine JL_callR [5] (there_fn N A c p N.snk) rfl rfl rfl rfl (by kernel_rfl) ⟨⟨0, _, by simp, rfl, shows_blk _ _ _ (0, 0), .inr rfl⟩, trivial⟩ (fun _ => rfl) ?_
  rintro v H' ⟨rfl, rfl⟩
  refine ⟨rfl, ?_⟩
  refine JL_run [5] rfl ?_
  by_cases h4 : there N N.snk
  case neg =>
    refine JL_set 19 (v' := .bool true) rfl (congrArg Value.bool (by rw [cdec_no h4]; rfl)) ?_
    refine JL_nil ?_
    refine J_yes rfl ?_
    (repeat' (first | refine J_seq ?_ | refine J_skip ?_ | refine J_yes rfl ?_ | refine J_no rfl ?_))
    refine J_region ?_
    refine JL_all [] rfl ?_
    refine J_drop [] (by decide) rfl (J_ret ⟨_, rfl, ?_, rfl⟩)
    unfold checkZ; rw [if_neg c1, if_pos (fun hc => h4 hc.2)]; rfl
  refine JL_set 19 (v' := .bool false) rfl (congrArg Value.bool (by rw [cdec_yes h4]; rfl)) ?_
  refine JL_nil ?_
  refine J_no rfl ?_
  have c2 : ¬ ¬ (there N N.src ∧ there N N.snk) := fun h => h ⟨h3, h4⟩
  (repeat' (first | refine J_seq ?_ | refine J_skip ?_ | refine J_yes rfl ?_ | refine J_no rfl ?_))
  refine J_region ?_
  refine JL_run [] rfl ?_
  refine JL_val [] (OpV_blk 0 rfl rfl rfl rfl) rfl ?_
  refine JL_run [] rfl ?_
  refine JL_val [] (OpV_blk 0 rfl rfl rfl rfl) rfl ?_
  refine JL_all [] rfl ?_
  refine J_dec rfl (fun h5 => ?_) (fun h5 => ?_)
  · (repeat' (first | refine J_seq ?_ | refine J_skip ?_ | refine J_yes rfl ?_ | refine J_no rfl ?_))
    refine J_region ?_
    refine JL_all [] rfl ?_
    refine J_drop [] (by decide) rfl (J_ret ⟨_, rfl, ?_, rfl⟩)
    unfold checkZ; rw [if_neg c1, if_neg c2, if_pos h5]; rfl
  (repeat' (first | refine J_seq ?_ | refine J_skip ?_ | refine J_yes rfl ?_ | refine J_no rfl ?_))
  refine J_region ?_
  refine JL_run [] rfl ?_
  refine JL_val [] (OpV_blk 0 rfl rfl rfl rfl) rfl ?_
  refine JL_all [] rfl ?_
  refine J_dec rfl (fun h6 => ?_) (fun h6 => J_skip ?_)
  · (repeat' (first | refine J_seq ?_ | refine J_skip ?_ | refine J_yes rfl ?_ | refine J_no rfl ?_))
    refine J_region ?_
    refine JL_all [] rfl ?_
    refine J_drop [] (by decide) rfl (J_ret ⟨_, rfl, ?_, rfl⟩)
    unfold checkZ; rw [if_neg c1, if_neg c2, if_neg h5, if_pos (by omega)]; rfl
  have hck : checkZ N = badArc N 0 N.arcs := by unfold checkZ; rw [if_neg c1, if_neg c2, if_neg h5, if_neg (by omega)]
  rw [hck]
  (repeat' (first | refine J_seq ?_ | refine J_skip ?_ | refine J_yes rfl ?_ | refine J_no rfl ?_))
  refine J_region ?_
  refine JL_all [] rfl ?_
  (repeat' (first | refine J_seq ?_ | refine J_skip ?_ | refine J_yes rfl ?_ | refine J_no rfl ?_))
  refine J_region ?_
  refine JL_run [] rfl ?_
  refine JL_val [] (OpV_blk 0 rfl rfl rfl rfl) rfl ?_
  refine JL_all [] rfl ?_
  refine J_block ?_
  refine J_loop (σ := Nat × Int) (fun s => [(46, .int .i64 s.1), (45, .int .i64 N.arcs.length), (44, .slice A N.arcs.length c), (4, .int .i64 s.2), (3, .func (.func 25) #[] #[.pointer (some ⟨p, 0, none⟩)]), (1, .pointer (some ⟨p, 0, none⟩))])
    (fun s => [blk p 24 (netC N A c), .seg b o (arcs N.arcs)]) (fun s => s.1 ≤ N.arcs.length ∧ inB s.2 ∧ badArc N 0 N.arcs = badArc N s.2 (N.arcs.drop s.1)) (fun s => N.arcs.length - s.1)
    (0, 0) [0, 1] ⟨rfl, rfl, rfl, rfl, rfl, rfl, trivial⟩ (by decide) rfl ⟨Nat.zero_le _, by decide, rfl⟩ ?_
  rintro ⟨k, n⟩ ⟨hk, hn, hbad⟩
  simp only at hk hn hbad ⊢
  (repeat' (first | refine J_seq ?_ | refine J_skip ?_ | refine J_yes rfl ?_ | refine J_no rfl ?_))
  refine J_region ?_
  refine JL_all [] rfl ?_
  refine J_seq (J_dec rfl (fun hlt => J_skip ?_) (fun hge => J_exit ?_))
  · have hlt : k < N.arcs.length := by omega
    obtain rfl := hA (by intro h; rw [h] at hlt; simp at hlt)
    obtain ⟨x, hx⟩ : ∃ x, N.arcs[k]? = some x := ⟨N.arcs[k], List.getElem?_eq_getElem hlt⟩
    have hxB := hN.arc x (List.mem_of_getElem? hx)
    have hd : N.arcs.drop k = x :: N.arcs.drop (k + 1) := by
      obtain ⟨_, rfl⟩ := List.getElem?_eq_some_iff.1 hx
      rw [List.drop_eq_getElem_cons hlt]
    rw [hd, badArc] at hbad
    refine J_seq (J_block ?_)
    (repeat' (first | refine J_seq ?_ | refine J_skip ?_ | refine J_yes rfl ?_ | refine J_no rfl ?_))
    refine J_region ?_
    refine JL_run [] rfl ?_
    refine JL_val [] (idxN rfl rfl rfl rfl rfl hlt) rfl ?_
    refine JL_val [] (ldseg 1 rfl rfl rfl rfl (readT_arc hx)) rfl ?_
    refine JL_alloc rfl rfl rfl (fun _ => rfl) fun q => ?_
    refine JL_store 0 rfl rfl rfl rfl rfl [] rfl ?_
    refine JL_nil ?_
    (repeat' (first | refine J_seq ?_ | refine J_skip ?_ | refine J_yes rfl ?_ | refine J_no rfl ?_))
    refine J_region ?_
    refine JL_run [] rfl ?_
    refine JL_val [] (OpV_blk 0 rfl rfl rfl rfl) rfl ?_
    refine JL_callR [] (add_fn hn hxB.2.2) rfl rfl rfl rfl (by kernel_rfl) trivial (fun _ => rfl) ?_
    rintro v H' ⟨rfl, rfl⟩
    refine ⟨rfl, ?_⟩
    refine JL_all [] rfl ?_
    (repeat' (first | refine J_seq ?_ | refine J_skip ?_ | refine J_yes rfl ?_ | refine J_no rfl ?_))
    refine J_block ?_
    (repeat' (first | refine J_seq ?_ | refine J_skip ?_ | refine J_yes rfl ?_ | refine J_no rfl ?_))
    refine J_region ?_
    refine JL_run [] rfl ?_
    refine JL_val [] (OpV_blk 0 rfl rfl rfl rfl) rfl ?_
    refine JL_callR [] (there_fn N (some ⟨b, o, none⟩) c p x.fr) rfl rfl rfl rfl (by kernel_rfl) ⟨⟨1, _, by simp, rfl, shows_blk _ _ _ (0, 0), .inr rfl⟩, trivial⟩ (fun _ => rfl) ?_
    rintro v H' ⟨rfl, rfl⟩
    refine ⟨rfl, ?_⟩
    refine JL_run [] rfl ?_
    by_cases h7 : there N x.fr
    case neg =>
      refine JL_set 63 (v' := .bool true) rfl (congrArg Value.bool (by rw [cdec_no h7]; rfl)) ?_
      refine JL_all [5] rfl ?_
      refine J_yes rfl ?_
      (repeat' (first | refine J_seq ?_ | refine J_skip ?_ | refine J_yes rfl ?_ | refine J_no rfl ?_))
      refine J_region ?_
      refine JL_all [] rfl ?_
      refine J_drop [] (by decide) rfl (J_ret ⟨_, rfl, ?_, rfl⟩)
      rw [hbad, if_pos (fun h => h7 h.1)]; rfl
    refine JL_set 63 (v' := .bool false) rfl (congrArg Value.bool (by rw [cdec_yes h7]; rfl)) ?_
    refine JL_run [5] rfl ?_
    refine JL_val [5] (OpV_blk 0 rfl rfl rfl rfl) rfl ?_
    refine JL_callR [5] (there_fn N (some ⟨b, o, none⟩) c p x.to) rfl rfl rfl rfl (by kernel_rfl) ⟨⟨1, _, by simp, rfl, shows_blk _ _ _ (0, 0), .inr rfl⟩, trivial⟩ (fun _ => rfl) ?_
    rintro v H' ⟨rfl, rfl⟩
    refine ⟨rfl, ?_⟩
    refine JL_run [5] rfl ?_
    by_cases h8 : there N x.to
    case neg =>
      refine JL_set 57 (v' := .bool true) rfl (congrArg Value.bool (by rw [cdec_no h8]; rfl)) ?_
      refine JL_nil ?_
      refine J_yes rfl ?_
      (repeat' (first | refine J_seq ?_ | refine J_skip ?_ | refine J_yes rfl ?_ | refine J_no rfl ?_))
      refine J_region ?_
      refine JL_all [] rfl ?_
      refine J_drop [] (by decide) rfl (J_ret ⟨_, rfl, ?_, rfl⟩)
      rw [hbad, if_pos (fun h => h8 h.2)]; rfl
    refine JL_set 57 (v' := .bool false) rfl (congrArg Value.bool (by rw [cdec_yes h8]; rfl)) ?_
    refine JL_nil ?_
    refine J_no rfl ?_
    rw [if_neg (fun h => h ⟨h7, h8⟩)] at hbad
    (repeat' (first | refine J_seq ?_ | refine J_skip ?_ | refine J_yes rfl ?_ | refine J_no rfl ?_))
    refine J_region ?_
    refine JL_run [] rfl ?_
    refine JL_val [] (OpV_blk 0 rfl rfl rfl rfl) rfl ?_
    refine JL_all [] rfl ?_
    refine J_dec rfl (fun h9 => ?_) (fun h9 => ?_)
    · (repeat' (first | refine J_seq ?_ | refine J_skip ?_ | refine J_yes rfl ?_ | refine J_no rfl ?_))
      refine J_region ?_
      refine JL_all [] rfl ?_
      refine J_drop [] (by decide) rfl (J_ret ⟨_, rfl, ?_, rfl⟩)
      rw [hbad, if_pos h9]; rfl
    rw [if_neg h9] at hbad
    by_cases hin : inB (n + x.cap)
    case neg =>
      rw [orErr_out hin]
      (repeat' (first | refine J_seq ?_ | refine J_skip ?_ | refine J_yes rfl ?_ | refine J_no rfl ?_))
      refine J_region ?_
      refine JL_run [] rfl ?_
      refine JL_set 77 (v' := .bool true) rfl (congrArg Value.bool (cdec_yes (by simp))) ?_
      refine JL_all [2] rfl ?_
      refine J_yes rfl ?_
      (repeat' (first | refine J_seq ?_ | refine J_skip ?_ | refine J_yes rfl ?_ | refine J_no rfl ?_))
      refine J_region ?_
      refine JL_all [] rfl ?_
      refine J_drop [] (by decide) rfl (J_ret ⟨_, rfl, ?_, rfl⟩)
      rw [hbad, if_pos (.inl hin)]; rfl
    rw [orErr_in hin]
    (repeat' (first | refine J_seq ?_ | refine J_skip ?_ | refine J_yes rfl ?_ | refine J_no rfl ?_))
    refine J_region ?_
    refine JL_run [] rfl ?_
    refine JL_set 77 (v' := .bool false) rfl (congrArg Value.bool (cdec_no (by simp))) ?_
    refine JL_all [2] rfl ?_
    refine J_dec rfl (fun h10 => ?_) (fun h10 => J_skip ?_)
    · (repeat' (first | refine J_seq ?_ | refine J_skip ?_ | refine J_yes rfl ?_ | refine J_no rfl ?_))
      refine J_region ?_
      refine JL_all [] rfl ?_
      refine J_drop [] (by decide) rfl (J_ret ⟨_, rfl, ?_, rfl⟩)
      rw [hbad, if_pos (.inr h10)]; rfl
    rw [if_neg (fun h => h.elim (fun h => h hin) h10)] at hbad
    (repeat' (first | refine J_seq ?_ | refine J_skip ?_ | refine J_yes rfl ?_ | refine J_no rfl ?_))
    refine J_region ?_
    refine JL_all [] rfl ?_
    (repeat' (first | refine J_seq ?_ | refine J_skip ?_ | refine J_yes rfl ?_ | refine J_no rfl ?_))
    refine J_region ?_
    refine JL_all [] rfl ?_
    refine ⟨(k + 1, n + x.cap), [1, 2], ⟨?_, rfl, rfl, rfl, rfl, rfl, trivial⟩, by decide, rfl, ⟨by simp only; omega, hin, hbad⟩, by simp only; omega⟩
    show some (Value.int .i64 (IntKind.i64.wrap ((k : Int) + 1))) = _
    rw [w64 (by omega)]; rfl
  · have hk' : k = N.arcs.length := by omega
    subst hk'
    rw [List.drop_length, badArc] at hbad
    (repeat' (first | refine J_seq ?_ | refine J_skip ?_ | refine J_yes rfl ?_ | refine J_no rfl ?_))
    refine J_region ?_
    refine JL_all [] rfl ?_
    refine J_drop [] (by decide) rfl (J_ret ⟨_, rfl, by rw [hbad]; rfl, rfl⟩)
theorem badArc_zero (N : Net) : ∀ (l : List Arc) (s : Int), 0 ≤ s → s ≤ 4611686018427387903 → badArc N s l = 0 → (∀ a ∈ l, (1 ≤ a.fr ∧ a.fr ≤ N.nodes) ∧ (1 ≤ a.to ∧ a.to ≤ N.nodes) ∧ 0 ≤ a.cap) ∧ s + (l.map (·.cap)).sum ≤ 4611686018427387903
  | [], s, _, h, _ => ⟨fun a ha => (by cases ha), by simpa using h⟩
  | a :: l, s, h0, h1, hz => by
    rw [badArc] at hz
    split at hz
    · simp at hz
    · rename_i ht
      split at hz
      · simp at hz
      · rename_i hc
        split at hz
        · simp at hz
        · rename_i hs
          obtain ⟨i1, i2⟩ := badArc_zero N l (s + a.cap) (by omega) (by omega) hz
          have ht' := Classical.not_not.1 ht
          refine ⟨fun x hx => ?_, by simp only [List.map_cons, List.sum_cons]; omega⟩
          rcases List.mem_cons.1 hx with rfl | hx
          · exact ⟨ht'.1, ht'.2, by omega⟩
          · exact i1 x hx
theorem checkZ_zero {N : Net} (h : checkZ N = 0) : N.Right := by
  unfold checkZ at h
  split at h
  · simp at h
  · rename_i h1
    split at h
    · simp at h
    · rename_i h2
      split at h
      · simp at h
      · rename_i h3
        split at h
        · simp at h
        · rename_i h4
          have h2' := Classical.not_not.1 h2
          obtain ⟨i1, i2⟩ := badArc_zero N N.arcs 0 (by omega) (by omega) h
          exact ⟨by omega, h2'.1, h2'.2, h3, by omega, i1, by omega⟩
end Go.Proofs.YtkiadfpkgpgbiaaGreatDoor


set_option linter.unusedVariables false
set_option linter.unusedSimpArgs false
namespace Go.Proofs.YtkiadfpkgpgbiaaGreatDoor
open Go.RowKit

def exStep (l : List Int) (a : Arc) (f : Int) : List Int :=
  let l1 := l.set a.fr.toNat (IntKind.i64.wrap (l.getD a.fr.toNat 0 - f))
  l1.set a.to.toNat (IntKind.i64.wrap (l1.getD a.to.toNat 0 + f))
def exc (n : Nat) (al : List Arc) (fs : List Int) : List Int := (al.zip fs).foldl (fun l p => exStep l p.1 p.2) (List.replicate (n + 1) 0)

theorem exStep_length (l : List Int) (a : Arc) (f : Int) : (exStep l a f).length = l.length := by simp [exStep]
theorem exc_length (n : Nat) (al : List Arc) (fs : List Int) : (exc n al fs).length = n + 1 := by
  unfold exc
  have : ∀ (ps : List (Arc × Int)) (l : List Int), (ps.foldl (fun l p => exStep l p.1 p.2) l).length = l.length := by
    intro ps
    induction ps with
    | nil => intro l; rfl
    | cons p ps ih => intro l; simp [ih, exStep_length]
  rw [this]; simp
theorem exc_succ (n : Nat) {al : List Arc} {fs : List Int} {k : Nat} {a : Arc} {f : Int} (ha : al[k]? = some a) (hf : fs[k]? = some f) : exc n (al.take (k + 1)) fs = exStep (exc n (al.take k) fs) a f := by
  have h1 : al.take (k + 1) = al.take k ++ [a] := by
    obtain ⟨h, rfl⟩ := List.getElem?_eq_some_iff.1 ha
    rw [List.take_succ_eq_append_getElem h]
  have hk : (al.take k).length = k := by
    obtain ⟨h, _⟩ := List.getElem?_eq_some_iff.1 ha
    simp; omega
  have h2 : fs = fs.take k ++ f :: fs.drop (k + 1) := by
    obtain ⟨h, rfl⟩ := List.getElem?_eq_some_iff.1 hf
    simp
  have hk2 : (fs.take k).length = k := by
    obtain ⟨h, _⟩ := List.getElem?_eq_some_iff.1 hf
    simp; omega
  unfold exc
  rw [h1]
  conv => lhs; rw [h2]
  conv => rhs; rw [h2]
  rw [List.zip_append (by rw [hk, hk2]), List.foldl_append]
  have : (al.take k).zip (fs.take k ++ f :: fs.drop (k + 1)) = (al.take k).zip (fs.take k) := by
    conv => lhs; rw [← List.append_nil (al.take k)]
    rw [List.zip_append (by rw [hk, hk2])]; simp
  rw [this]
  simp

end Go.Proofs.YtkiadfpkgpgbiaaGreatDoor


/- Flows: whether amounts are one, and what it is worth. -/
set_option linter.unusedVariables false
set_option linter.unusedSimpArgs false
namespace Go.Proofs.YtkiadfpkgpgbiaaGreatDoor
open Go.RowKit
open Classical in
/-- Whether amounts are within the capacities. -/
noncomputable def withinZ (N : Net) (f : List Int) : Int := if f.length ≠ N.arcs.length then 6 else if ∀ p ∈ N.arcs.zip f, 0 ≤ p.2 ∧ p.2 ≤ p.1.cap then 0 else 3
/-- What is left in a node. -/
def exZ (ps : List (Arc × Int)) (v : Int) : Int := (ps.map fun p => (if p.1.to = v then p.2 else 0) - (if p.1.fr = v then p.2 else 0)).sum
theorem exStep_get {l : List Int} {a : Arc} {f : Int} {B : Int} (hB : ∀ v : Nat, -B ≤ l.getD v 0 ∧ l.getD v 0 ≤ B) (hf : 0 ≤ f) (hb : B + f ≤ 9000000000000000000) (h1 : 0 ≤ a.fr ∧ a.fr < l.length) (h2 : 0 ≤ a.to ∧ a.to < l.length) (v : Nat) :
    (exStep l a f).getD v 0 = l.getD v 0 + ((if a.to = v then f else 0) - (if a.fr = v then f else 0)) := by
  obtain ⟨fr, to, cap⟩ := a
  obtain ⟨fr, rfl⟩ := Int.eq_ofNat_of_zero_le h1.1
  obtain ⟨to, rfl⟩ := Int.eq_ofNat_of_zero_le h2.1
  simp only [exStep, Int.toNat_natCast]
  have h1' : fr < l.length := by have := h1.2; simp only at this; omega
  have h2' : to < l.length := by have := h2.2; simp only at this; omega
  have hs1 : ∀ v, (l.set fr (IntKind.i64.wrap (l.getD fr 0 - f))).getD v 0 = l.getD v 0 - (if fr = v then f else 0) := by
    intro v
    by_cases h : fr = v
    · subst h
      have := hB fr
      rw [if_pos rfl, List.getD_eq_getElem?_getD, List.getElem?_set_self h1', Option.getD_some, w64 (by omega)]
    · rw [if_neg h, List.getD_eq_getElem?_getD, List.getElem?_set_ne h, List.getD_eq_getElem?_getD]; omega
  by_cases h : to = v
  · subst h
    have e1 := hs1 to
    have := hB to
    rw [List.getD_eq_getElem?_getD, List.getElem?_set_self (by simpa using h2'), Option.getD_some, e1, w64 (by split <;> omega)]
    simp only [Int.natCast_inj, if_true]
    omega
  · rw [List.getD_eq_getElem?_getD, List.getElem?_set_ne h, ← List.getD_eq_getElem?_getD, hs1 v]
    simp only [Int.natCast_inj]
    rw [if_neg h]
    omega
theorem fold_ex (n : Nat) : ∀ (ps : List (Arc × Int)) (l : List Int) (B : Int), l.length = n + 1 → (∀ v : Nat, -B ≤ l.getD v 0 ∧ l.getD v 0 ≤ B) → (∀ p ∈ ps, 0 ≤ p.2 ∧ (0 ≤ p.1.fr ∧ p.1.fr ≤ n) ∧ (0 ≤ p.1.to ∧ p.1.to ≤ n)) → B + (ps.map (·.2)).sum ≤ 9000000000000000000 →
    ∀ v : Nat, (ps.foldl (fun l p => exStep l p.1 p.2) l).getD v 0 = l.getD v 0 + exZ ps v
  | [], l, B, _, _, _, _, v => by simp [exZ]
  | p :: ps, l, B, hl, hB, hp, hs, v => by
    obtain ⟨p1, p2, p3⟩ := hp p (by simp)
    have hnn : 0 ≤ (ps.map (·.2)).sum := by
      have : ∀ (ps : List (Arc × Int)), (∀ p ∈ ps, 0 ≤ p.2) → 0 ≤ (ps.map (·.2)).sum := by
        intro ps
        induction ps with
        | nil => intro _; simp
        | cons q ps ih => intro h; have := ih fun a ha => h a (by simp [ha]); have := h q (by simp); simp only [List.map_cons, List.sum_cons]; omega
      exact this ps fun q hq => (hp q (by simp [hq])).1
    simp only [List.map_cons, List.sum_cons] at hs
    have hst := exStep_get (l := l) (a := p.1) (f := p.2) hB p1 (by omega) (by omega) (by omega)
    rw [List.foldl_cons, fold_ex n ps (exStep l p.1 p.2) (B + p.2) (by rw [exStep_length]; exact hl) (fun v => ?_) (fun q hq => hp q (by simp [hq])) (by omega) v, hst v]
    · simp only [exZ, List.map_cons, List.sum_cons]; omega
    · rw [hst v]
      have := hB v
      split <;> split <;> omega
theorem exc_val (n : Nat) (al : List Arc) (fs : List Int) (hp : ∀ p ∈ al.zip fs, 0 ≤ p.2 ∧ (0 ≤ p.1.fr ∧ p.1.fr ≤ n) ∧ (0 ≤ p.1.to ∧ p.1.to ≤ n)) (hs : ((al.zip fs).map (·.2)).sum ≤ 9000000000000000000) (v : Nat) : (exc n al fs).getD v 0 = exZ (al.zip fs) v := by
  unfold exc
  have h0 : ∀ v, (List.replicate (n + 1) (0 : Int)).getD v 0 = 0 := by
    intro v; rw [List.getD_eq_getElem?_getD, List.getElem?_replicate]; split <;> rfl
  rw [fold_ex n (al.zip fs) _ 0 (by simp) (fun v => by rw [h0]; omega) hp (by omega) v, h0]
  omega
/-- Amounts within the capacities of a right network. -/
structure Ranged (N : Net) (f : List Int) : Prop where
  len : f.length = N.arcs.length
  all : ∀ p ∈ N.arcs.zip f, 0 ≤ p.2 ∧ p.2 ≤ p.1.cap
theorem withinZ_zero {N : Net} {f : List Int} : withinZ N f = 0 ↔ Ranged N f := by
  unfold withinZ
  constructor
  · intro h
    split at h
    · simp at h
    · rename_i h1
      split at h
      · rename_i h2; exact ⟨by omega, h2⟩
      · simp at h
  · rintro ⟨h1, h2⟩
    rw [if_neg (by omega), if_pos h2]
theorem sum_zip_le : ∀ (al : List Arc) (fs : List Int), (∀ p ∈ al.zip fs, 0 ≤ p.2 ∧ p.2 ≤ p.1.cap) → (∀ a ∈ al, 0 ≤ a.cap) → ((al.zip fs).map (·.2)).sum ≤ (al.map (·.cap)).sum
  | [], _, _, _ => by simp
  | a :: al, [], _, h => by
    have := sum_zip_le al [] (by simp) fun a ha => h a (by simp [ha])
    have := h a (by simp)
    simp at *; omega
  | a :: al, f :: fs, hp, h => by
    have := sum_zip_le al fs (fun p hp' => hp p (by simp [hp'])) fun a ha => h a (by simp [ha])
    have := hp (a, f) (by simp)
    simp only [List.zip_cons_cons, List.map_cons, List.sum_cons] at *; omega
theorem Ranged.exc {N : Net} {f : List Int} (h : Ranged N f) (hR : N.Right) (n : Nat) (hn : N.nodes = n) (v : Nat) : (exc n N.arcs f).getD v 0 = exZ (N.arcs.zip f) v := by
  refine exc_val n N.arcs f (fun p hp => ?_) ?_ v
  · have h1 := h.all p hp
    have h2 := hR.arc p.1 (List.of_mem_zip hp).1
    exact ⟨h1.1, by omega, by omega⟩
  · have h1 := sum_zip_le N.arcs f h.all fun a ha => (hR.arc a ha).2.2
    have h2 := hR.sum
    omega
open Classical in
/-- Whether amounts are a flow. -/
noncomputable def flowZ (N : Net) (f : List Int) : Int := if withinZ N f ≠ 0 then withinZ N f else if ∀ v : Int, 1 ≤ v ∧ v ≤ N.nodes → v ≠ N.src → v ≠ N.snk → exZ (N.arcs.zip f) v = 0 then 0 else 9
theorem flowZ_yes {N : Net} {f : List Int} (h : Ranged N f) (hz : ∀ v : Int, 1 ≤ v ∧ v ≤ N.nodes → v ≠ N.src → v ≠ N.snk → exZ (N.arcs.zip f) v = 0) : flowZ N f = 0 := by
  unfold flowZ; rw [if_neg (fun hc => hc (withinZ_zero.2 h)), if_pos hz]
theorem flowZ_no {N : Net} {f : List Int} (h : Ranged N f) (hz : ¬ ∀ v : Int, 1 ≤ v ∧ v ≤ N.nodes → v ≠ N.src → v ≠ N.snk → exZ (N.arcs.zip f) v = 0) : flowZ N f = 9 := by
  unfold flowZ; rw [if_neg (fun hc => hc (withinZ_zero.2 h)), if_neg hz]
/-- A flow of a right network. -/
structure IsFlow (N : Net) (f : List Int) : Prop extends Ranged N f where
  kept : ∀ v : Int, 1 ≤ v ∧ v ≤ N.nodes → v ≠ N.src → v ≠ N.snk → exZ (N.arcs.zip f) v = 0
theorem flowZ_zero {N : Net} {f : List Int} : flowZ N f = 0 ↔ IsFlow N f := by
  constructor
  · intro h
    by_cases hw : Ranged N f
    · refine ⟨hw, ?_⟩
      by_cases hz : ∀ v : Int, 1 ≤ v ∧ v ≤ N.nodes → v ≠ N.src → v ≠ N.snk → exZ (N.arcs.zip f) v = 0
      · exact hz
      · rw [flowZ_no hw hz] at h; simp at h
    · exfalso
      have h1 : withinZ N f ≠ 0 := fun h => hw (withinZ_zero.1 h)
      unfold flowZ at h; rw [if_pos h1] at h; exact h1 h
  · exact fun h => flowZ_yes h.toRanged h.kept
end Go.Proofs.YtkiadfpkgpgbiaaGreatDoor
