
/- What is wrong with a network is told by all that is handed it. -/
import Derived.Test.YtcgcimnjknadjaaRefR
import Derived.Test.YtcgcimnjknadjaaLeadN
import Derived.Test.YtcgcimnjknadjaaTblkN
set_option linter.unusedVariables false
set_option linter.unusedSimpArgs false
namespace Go.Proofs.Ytcgcimnjknadjaa
open Go.RowKit
theorem withinE_fn (N : Net) (hN : N.Fits) (hz : checkZ N ≠ 0) (A : Option Addr) (c b o : Nat) (hA : N.arcs ≠ [] → A = some ⟨b, o, none⟩) (f : List Int) (F : Option Addr) (cf bf of : Nat) (hF : f ≠ [] → F = some ⟨bf, of, none⟩) (hf : ∀ x ∈ f, inB x) (hfl : f.length * 8 ≤ 140737488351232) :
    Fn 59 [netV N A c, .slice F f.length cf] [] [.seg b o (arcs N.arcs), .seg bf of (ints f)] fun v H' => v = .int .i64 (checkZ N) ∧ H' = [] := by
  refine Fn_of Try.func59 rfl rfl fun w0 => ?_
  (repeat' (first | refine J_seq ?_ | refine J_skip ?_ | refine J_yes rfl ?_ | refine J_no rfl ?_))
  refine J_region ?_
  refine JL_box (cs := netC N A c) rfl rfl rfl (fun _ => rfl) fun p => ?_
  refine JL_all [] rfl ?_
  (repeat' (first | refine J_seq ?_ | refine J_skip ?_ | refine J_yes rfl ?_ | refine J_no rfl ?_))
  refine J_region ?_
  refine JL_val [] (v := netV N A c) (OpV_blk 0 rfl rfl rfl rfl) rfl ?_
  refine JL_run [] rfl ?_
  refine JL_callR [] (check_fn N hN A c b o hA) rfl rfl rfl rfl (by kernel_rfl) ⟨⟨1, _, by simp, rfl, shows_seg _ _ _, seen_seg⟩, trivial⟩ (fun _ => rfl) ?_
  rintro v H' ⟨rfl, rfl⟩
  refine ⟨rfl, ?_⟩
  refine JL_all [] rfl ?_
  (repeat' (first | refine J_seq ?_ | refine J_skip ?_ | refine J_yes rfl ?_ | refine J_no rfl ?_))
  refine J_region ?_
  refine JL_all [] rfl ?_
  refine J_dec rfl (fun _ => ?_) (fun h => absurd hz h)
  (repeat' (first | refine J_seq ?_ | refine J_skip ?_ | refine J_yes rfl ?_ | refine J_no rfl ?_))
  refine J_region ?_
  refine JL_all [] rfl ?_
  exact J_drop [] (by decide) rfl (J_ret ⟨_, rfl, rfl, rfl⟩)
theorem fcheckE_fn (N : Net) (hN : N.Fits) (hz : checkZ N ≠ 0) (A : Option Addr) (c b o : Nat) (hA : N.arcs ≠ [] → A = some ⟨b, o, none⟩) (f : List Int) (F : Option Addr) (cf bf of : Nat) (hF : f ≠ [] → F = some ⟨bf, of, none⟩) (hf : ∀ x ∈ f, inB x) (hfl : f.length * 8 ≤ 140737488351232) :
    Fn 27 [netV N A c, .slice F f.length cf] [] [.seg b o (arcs N.arcs), .seg bf of (ints f)] fun v H' => v = .int .i64 (checkZ N) ∧ H' = [] := by
  refine Fn_of Try.func27 rfl rfl fun w0 => ?_
  (repeat' (first | refine J_seq ?_ | refine J_skip ?_ | refine J_yes rfl ?_ | refine J_no rfl ?_))
  refine J_region ?_
  refine JL_box (cs := netC N A c) rfl rfl rfl (fun _ => rfl) fun p => ?_
  refine JL_all [] rfl ?_
  (repeat' (first | refine J_seq ?_ | refine J_skip ?_ | refine J_yes rfl ?_ | refine J_no rfl ?_))
  refine J_region ?_
  refine JL_val [] (v := netV N A c) (OpV_blk 0 rfl rfl rfl rfl) rfl ?_
  refine JL_run [] rfl ?_
  refine JL_callR [] (withinE_fn N hN hz A c b o hA f F cf bf of hF hf hfl) rfl rfl rfl rfl (by kernel_rfl) ⟨⟨1, _, by simp, rfl, shows_seg _ _ _, seen_seg⟩, ⟨2, _, by simp, rfl, shows_seg _ _ _, seen_seg⟩, trivial⟩ (fun _ => rfl) ?_
  rintro v H' ⟨rfl, rfl⟩
  refine ⟨rfl, ?_⟩
  refine JL_all [] rfl ?_
  (repeat' (first | refine J_seq ?_ | refine J_skip ?_ | refine J_yes rfl ?_ | refine J_no rfl ?_))
  refine J_region ?_
  refine JL_all [] rfl ?_
  refine J_dec rfl (fun _ => ?_) (fun h => absurd hz h)
  (repeat' (first | refine J_seq ?_ | refine J_skip ?_ | refine J_yes rfl ?_ | refine J_no rfl ?_))
  refine J_region ?_
  refine JL_all [] rfl ?_
  exact J_drop [] (by decide) rfl (J_ret ⟨_, rfl, rfl, rfl⟩)
theorem roomE_fn (N : Net) (hN : N.Fits) (hz : checkZ N ≠ 0) (A : Option Addr) (c b o : Nat) (hA : N.arcs ≠ [] → A = some ⟨b, o, none⟩) (f : List Int) (F : Option Addr) (cf bf of : Nat) (hF : f ≠ [] → F = some ⟨bf, of, none⟩) (hf : ∀ x ∈ f, inB x) (hfl : f.length * 8 ≤ 140737488351232) :
    Fn 44 [netV N A c, .slice F f.length cf] [] [.seg b o (arcs N.arcs), .seg bf of (ints f)] fun v H' => v = .tuple #[.slice none 0 0, .int .i64 (checkZ N)] ∧ H' = [] := by
  refine Fn_of Try.func44 rfl rfl fun w0 => ?_
  (repeat' (first | refine J_seq ?_ | refine J_skip ?_ | refine J_yes rfl ?_ | refine J_no rfl ?_))
  refine J_region ?_
  refine JL_box (cs := netC N A c) rfl rfl rfl (fun _ => rfl) fun p => ?_
  refine JL_all [] rfl ?_
  (repeat' (first | refine J_seq ?_ | refine J_skip ?_ | refine J_yes rfl ?_ | refine J_no rfl ?_))
  refine J_region ?_
  refine JL_val [] (v := netV N A c) (OpV_blk 0 rfl rfl rfl rfl) rfl ?_
  refine JL_run [] rfl ?_
  refine JL_callR [] (fcheckE_fn N hN hz A c b o hA f F cf bf of hF hf hfl) rfl rfl rfl rfl (by kernel_rfl) ⟨⟨1, _, by simp, rfl, shows_seg _ _ _, seen_seg⟩, ⟨2, _, by simp, rfl, shows_seg _ _ _, seen_seg⟩, trivial⟩ (fun _ => rfl) ?_
  rintro v H' ⟨rfl, rfl⟩
  refine ⟨rfl, ?_⟩
  refine JL_all [] rfl ?_
  (repeat' (first | refine J_seq ?_ | refine J_skip ?_ | refine J_yes rfl ?_ | refine J_no rfl ?_))
  refine J_region ?_
  refine JL_all [] rfl ?_
  refine J_dec rfl (fun _ => ?_) (fun h => absurd hz h)
  (repeat' (first | refine J_seq ?_ | refine J_skip ?_ | refine J_yes rfl ?_ | refine J_no rfl ?_))
  refine J_region ?_
  refine JL_all [] rfl ?_
  exact J_drop [] (by decide) rfl (J_ret ⟨_, rfl, rfl, rfl⟩)
theorem levelsE_fn (N : Net) (hN : N.Fits) (hz : checkZ N ≠ 0) (A : Option Addr) (c b o : Nat) (hA : N.arcs ≠ [] → A = some ⟨b, o, none⟩) (f : List Int) (F : Option Addr) (cf bf of : Nat) (hF : f ≠ [] → F = some ⟨bf, of, none⟩) (hf : ∀ x ∈ f, inB x) (hfl : f.length * 8 ≤ 140737488351232) (least : Int) :
    Fn 67 [netV N A c, .slice F f.length cf, .int .i64 least] [] [.seg b o (arcs N.arcs), .seg bf of (ints f)] fun v H' => v = .tuple #[.slice none 0 0, .int .i64 (checkZ N)] ∧ H' = [] := by
  refine Fn_of Try.func67 rfl rfl fun w0 => ?_
  (repeat' (first | refine J_seq ?_ | refine J_skip ?_ | refine J_yes rfl ?_ | refine J_no rfl ?_))
  refine J_region ?_
  refine JL_box (cs := netC N A c) rfl rfl rfl (fun _ => rfl) fun p => ?_
  refine JL_all [] rfl ?_
  (repeat' (first | refine J_seq ?_ | refine J_skip ?_ | refine J_yes rfl ?_ | refine J_no rfl ?_))
  refine J_region ?_
  refine JL_val [] (v := netV N A c) (OpV_blk 0 rfl rfl rfl rfl) rfl ?_
  refine JL_run [] rfl ?_
  refine JL_callR [] (roomE_fn N hN hz A c b o hA f F cf bf of hF hf hfl) rfl rfl rfl rfl (by kernel_rfl) ⟨⟨1, _, by simp, rfl, shows_seg _ _ _, seen_seg⟩, ⟨2, _, by simp, rfl, shows_seg _ _ _, seen_seg⟩, trivial⟩ (fun _ => rfl) ?_
  rintro v H' ⟨rfl, rfl⟩
  refine ⟨rfl, ?_⟩
  refine JL_all [] rfl ?_
  (repeat' (first | refine J_seq ?_ | refine J_skip ?_ | refine J_yes rfl ?_ | refine J_no rfl ?_))
  refine J_block ?_
  (repeat' (first | refine J_seq ?_ | refine J_skip ?_ | refine J_yes rfl ?_ | refine J_no rfl ?_))
  refine J_region ?_
  refine JL_all [] rfl ?_
  refine J_dec rfl (fun _ => ?_) (fun h => absurd hz h)
  (repeat' (first | refine J_seq ?_ | refine J_skip ?_ | refine J_yes rfl ?_ | refine J_no rfl ?_))
  refine J_region ?_
  refine JL_all [] rfl ?_
  exact J_drop [] (by decide) rfl (J_ret ⟨_, rfl, rfl, rfl⟩)
theorem leadsE_fn (N : Net) (hN : N.Fits) (hz : checkZ N ≠ 0) (A : Option Addr) (c b o : Nat) (hA : N.arcs ≠ [] → A = some ⟨b, o, none⟩) (f : List Int) (F : Option Addr) (cf bf of : Nat) (hF : f ≠ [] → F = some ⟨bf, of, none⟩) (hf : ∀ x ∈ f, inB x) (hfl : f.length * 8 ≤ 140737488351232) (least : Int) :
    Fn 43 [netV N A c, .slice F f.length cf, .int .i64 least] [] [.seg b o (arcs N.arcs), .seg bf of (ints f)] fun v H' => v = .tuple #[.slice none 0 0, .int .i64 (checkZ N)] ∧ H' = [] := by
  refine Fn_of Try.func43 rfl rfl fun w0 => ?_
  (repeat' (first | refine J_seq ?_ | refine J_skip ?_ | refine J_yes rfl ?_ | refine J_no rfl ?_))
  refine J_region ?_
  refine JL_box (cs := netC N A c) rfl rfl rfl (fun _ => rfl) fun p => ?_
  refine JL_all [] rfl ?_
  (repeat' (first | refine J_seq ?_ | refine J_skip ?_ | refine J_yes rfl ?_ | refine J_no rfl ?_))
  refine J_region ?_
  refine JL_val [] (v := netV N A c) (OpV_blk 0 rfl rfl rfl rfl) rfl ?_
  refine JL_run [] rfl ?_
  refine JL_callR [] (levelsE_fn N hN hz A c b o hA f F cf bf of hF hf hfl least) rfl rfl rfl rfl (by kernel_rfl) ⟨⟨1, _, by simp, rfl, shows_seg _ _ _, seen_seg⟩, ⟨2, _, by simp, rfl, shows_seg _ _ _, seen_seg⟩, trivial⟩ (fun _ => rfl) ?_
  rintro v H' ⟨rfl, rfl⟩
  refine ⟨rfl, ?_⟩
  refine JL_all [] rfl ?_
  (repeat' (first | refine J_seq ?_ | refine J_skip ?_ | refine J_yes rfl ?_ | refine J_no rfl ?_))
  refine J_region ?_
  refine JL_all [] rfl ?_
  refine J_dec rfl (fun _ => ?_) (fun h => absurd hz h)
  (repeat' (first | refine J_seq ?_ | refine J_skip ?_ | refine J_yes rfl ?_ | refine J_no rfl ?_))
  refine J_region ?_
  refine JL_all [] rfl ?_
  exact J_drop [] (by decide) rfl (J_ret ⟨_, rfl, rfl, rfl⟩)
theorem deepE_fn (N : Net) (hN : N.Fits) (hz : checkZ N ≠ 0) (A : Option Addr) (c b o : Nat) (hA : N.arcs ≠ [] → A = some ⟨b, o, none⟩) (f : List Int) (F : Option Addr) (cf bf of : Nat) (hF : f ≠ [] → F = some ⟨bf, of, none⟩) (hf : ∀ x ∈ f, inB x) (hfl : f.length * 8 ≤ 140737488351232) (least : Int) :
    Fn 60 [netV N A c, .slice F f.length cf, .int .i64 least] [] [.seg b o (arcs N.arcs), .seg bf of (ints f)] fun v H' => v = two (0, checkZ N) ∧ H' = [] := by
  refine Fn_of Try.func60 rfl rfl fun w0 => ?_
  (repeat' (first | refine J_seq ?_ | refine J_skip ?_ | refine J_yes rfl ?_ | refine J_no rfl ?_))
  refine J_region ?_
  refine JL_box (cs := netC N A c) rfl rfl rfl (fun _ => rfl) fun p => ?_
  refine JL_all [] rfl ?_
  (repeat' (first | refine J_seq ?_ | refine J_skip ?_ | refine J_yes rfl ?_ | refine J_no rfl ?_))
  refine J_region ?_
  refine JL_val [] (v := netV N A c) (OpV_blk 0 rfl rfl rfl rfl) rfl ?_
  refine JL_run [] rfl ?_
  refine JL_callR [] (levelsE_fn N hN hz A c b o hA f F cf bf of hF hf hfl least) rfl rfl rfl rfl (by kernel_rfl) ⟨⟨1, _, by simp, rfl, shows_seg _ _ _, seen_seg⟩, ⟨2, _, by simp, rfl, shows_seg _ _ _, seen_seg⟩, trivial⟩ (fun _ => rfl) ?_
  rintro v H' ⟨rfl, rfl⟩
  refine ⟨rfl, ?_⟩
  refine JL_all [] rfl ?_
  (repeat' (first | refine J_seq ?_ | refine J_skip ?_ | refine J_yes rfl ?_ | refine J_no rfl ?_))
  refine J_region ?_
  refine JL_all [] rfl ?_
  refine J_dec rfl (fun _ => ?_) (fun h => absurd hz h)
  (repeat' (first | refine J_seq ?_ | refine J_skip ?_ | refine J_yes rfl ?_ | refine J_no rfl ?_))
  refine J_region ?_
  refine JL_all [] rfl ?_
  exact J_drop [] (by decide) rfl (J_ret ⟨_, rfl, rfl, rfl⟩)
theorem tblockE_fn (N : Net) (hN : N.Fits) (hz : checkZ N ≠ 0) (A : Option Addr) (c b o : Nat) (hA : N.arcs ≠ [] → A = some ⟨b, o, none⟩) (f : List Int) (F : Option Addr) (cf bf of : Nat) (hF : f ≠ [] → F = some ⟨bf, of, none⟩) (hf : ∀ x ∈ f, inB x) (hfl : f.length * 8 ≤ 140737488351232) (least : Int) :
    Fn 17 [netV N A c, .slice F f.length cf, .int .i64 least] [] [.seg b o (arcs N.arcs), .seg bf of (ints f)] fun v H' => v = .tuple #[.slice none 0 0, .int .i64 0, .int .i64 0, .int .i64 (checkZ N)] ∧ H' = [] := by
  refine Fn_of Try.func17 rfl rfl fun w0 => ?_
  (repeat' (first | refine J_seq ?_ | refine J_skip ?_ | refine J_yes rfl ?_ | refine J_no rfl ?_))
  refine J_region ?_
  refine JL_box (cs := netC N A c) rfl rfl rfl (fun _ => rfl) fun p => ?_
  refine JL_all [] rfl ?_
  (repeat' (first | refine J_seq ?_ | refine J_skip ?_ | refine J_yes rfl ?_ | refine J_no rfl ?_))
  refine J_region ?_
  refine JL_val [] (v := netV N A c) (OpV_blk 0 rfl rfl rfl rfl) rfl ?_
  refine JL_run [] rfl ?_
  refine JL_callR [] (leadsE_fn N hN hz A c b o hA f F cf bf of hF hf hfl least) rfl rfl rfl rfl (by kernel_rfl) ⟨⟨1, _, by simp, rfl, shows_seg _ _ _, seen_seg⟩, ⟨2, _, by simp, rfl, shows_seg _ _ _, seen_seg⟩, trivial⟩ (fun _ => rfl) ?_
  rintro v H' ⟨rfl, rfl⟩
  refine ⟨rfl, ?_⟩
  refine JL_all [] rfl ?_
  (repeat' (first | refine J_seq ?_ | refine J_skip ?_ | refine J_yes rfl ?_ | refine J_no rfl ?_))
  refine J_region ?_
  refine JL_all [] rfl ?_
  refine J_dec rfl (fun _ => ?_) (fun h => absurd hz h)
  (repeat' (first | refine J_seq ?_ | refine J_skip ?_ | refine J_yes rfl ?_ | refine J_no rfl ?_))
  refine J_region ?_
  refine JL_all [] rfl ?_
  exact J_drop [] (by decide) rfl (J_ret ⟨_, rfl, rfl, rfl⟩)
/-- tree.Block, of any network. -/
def tblockX (N : Net) (f : List Int) (least : Int) (m : Nat) (v : Value) (H' : Heap) : Prop :=
  (errZ N f least = 0 ∧ ∃ (f' : List Int) (ws : List (List Nat × Int)) (k : Nat) (Ao : Option Addr) (co : Nat), BlkOf N least f ws f' ∧
    v = .tuple #[.slice Ao m co, .int .i64 (ws.length : Int), .int .i64 (k : Int), .int .i64 0] ∧ H' = [.own (.slice Ao m co) 2 1 m (ints f')]) ∨
  (errZ N f least ≠ 0 ∧ v = .tuple #[.slice none 0 0, .int .i64 0, .int .i64 0, .int .i64 (errZ N f least)] ∧ H' = [])
theorem errZ_check {N : Net} {f : List Int} {least : Int} (hz : checkZ N ≠ 0) : errZ N f least = checkZ N := by
  have : wrongZ N f = checkZ N := by unfold wrongZ; rw [if_pos hz]
  rw [errZ_wrong (by rw [this]; exact hz), this]
theorem errZ_flow {N : Net} {f : List Int} {least : Int} (hR : N.Right) (hf : ¬ IsFlow N f) : errZ N f least = flowZ N f ∧ flowZ N f ≠ 0 := by
  have hz : flowZ N f ≠ 0 := fun h => hf (flowZ_zero.1 h)
  have : wrongZ N f = flowZ N f := by unfold wrongZ; rw [if_neg (fun h => h hR.check)]
  exact ⟨by rw [errZ_wrong (by rw [this]; exact hz), this], hz⟩
theorem tblockX_fn (N : Net) (hN : N.Fits) (A : Option Addr) (c b o : Nat) (hA : N.arcs ≠ [] → A = some ⟨b, o, none⟩) (f : List Int) (F : Option Addr) (cf bf of : Nat) (hF : f ≠ [] → F = some ⟨bf, of, none⟩) (hf : ∀ x ∈ f, inB x) (hfl : f.length * 8 ≤ 140737488351232) (least : Int) (hlb : inB least) :
    Fn 17 [netV N A c, .slice F f.length cf, .int .i64 least] [] [.seg b o (arcs N.arcs), .seg bf of (ints f)] (tblockX N f least f.length) := by
  by_cases hz : checkZ N = 0
  · have hR := checkZ_zero hz
    intro w hw
    refine (tblock_fn N hN hR A c b o hA f F cf bf of hF hf hfl least hlb w hw).mono ?_
    rintro e w' ⟨v, H', he, hH, (⟨h1, h2, f', ws, k, Ao, co, h3, _, _, _, rfl, rfl⟩ | ⟨h1, rfl, rfl⟩ | ⟨h1, h2, rfl, rfl⟩)⟩
    · exact ⟨_, _, he, hH, .inl ⟨errZ_zero.2 ⟨hR, h1, h2⟩, f', ws, k, Ao, co, h3, rfl, rfl⟩⟩
    · obtain ⟨e1, e2⟩ := errZ_flow (least := least) hR h1
      exact ⟨_, _, he, hH, .inr ⟨by rw [e1]; exact e2, by rw [e1], rfl⟩⟩
    · have e1 := errZ_least (N := N) (f := f) (wrong_zero.2 ⟨hR, h1⟩) h2
      exact ⟨_, _, he, hH, .inr ⟨by rw [e1]; decide, by rw [e1], rfl⟩⟩
  · intro w hw
    refine (tblockE_fn N hN hz A c b o hA f F cf bf of hF hf hfl least w hw).mono ?_
    rintro e w' ⟨v, H', he, hH, rfl, rfl⟩
    have e1 := errZ_check (f := f) (least := least) hz
    exact ⟨_, _, he, hH, .inr ⟨by rw [e1]; exact hz, by rw [e1], rfl⟩⟩
end Go.Proofs.Ytcgcimnjknadjaa
