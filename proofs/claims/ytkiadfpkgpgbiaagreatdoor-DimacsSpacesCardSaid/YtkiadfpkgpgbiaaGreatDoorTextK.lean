
/- Words joined. -/
import Derived.Test.YtkiadfpkgpgbiaaGreatDoorTextS
import Derived.Lib.Join
set_option linter.unusedVariables false
set_option linter.unusedSimpArgs false
namespace Go.Proofs.YtkiadfpkgpgbiaaGreatDoor
open Go.RowKit
theorem join_fn (A : Option Addr) (n c b o : Nat) (xs : List (List UInt8)) (sep : List UInt8) (hn : n = xs.length) (hA : xs ≠ [] → A = some ⟨b, o, none⟩) (hc : n ≤ c) (hl : (Lib.join xs sep).length ≤ 140737488355328) (hx : xs.length ≤ 140737488355328) :
    Fn 43 [.slice A n c, str sep] [] [.seg b o (strs xs)] fun v H' => v = str (Lib.join xs sep) ∧ H' = [] := by
  subst hn
  by_cases h0 : xs = []
  · subst h0
    exact Fn.of_below fun w _ => (Any.strings_Join_none Tryz.lays156 Tryz.Builder_Extra_156 A c ⟨sep.toArray⟩ w).mono fun e w' ⟨he, hw⟩ => ⟨_, he, hw ▸ Below.refl _ _, rfl, rfl⟩
  · obtain rfl := hA h0
    refine Fn.of_below fun w hw => ?_
    have hseg := hw.holds (.seg b o (strs xs)) (by simp)
    have hmap : ((xs.map fun x => (⟨x.toArray⟩ : ByteArray)).map (·.data.toList)) = xs := by
      rw [List.map_map]
      exact (List.map_congr_left fun x _ => (rfl : _ = id x)).trans (List.map_id xs)
    have hcell : ∀ (j : Nat) x, (xs.map fun x => (⟨x.toArray⟩ : ByteArray))[j]? = some x → w.cell? ⟨b, o + j, none⟩ = some (.string x) := by
      intro j x hj
      rw [List.getElem?_map] at hj
      obtain ⟨y, hy, rfl⟩ := Option.map_eq_some_iff.1 hj
      exact hseg j _ (strs_get hy)
    have hlt : b < w.heap.size := by
      cases xs with
      | nil => exact absurd rfl h0
      | cons x r => exact World.block_lt_of_cell? w _ (hseg 0 _ rfl)
    have T := Any.strings_Join Tryz.lays156 Tryz.Builder_Extra_156 b o c (xs.map fun x => (⟨x.toArray⟩ : ByteArray)) ⟨sep.toArray⟩ w hcell hlt (by simpa using hx) (by simpa using hc) (by rw [hmap]; exact hl)
    rw [List.length_map, hmap] at T
    exact T.mono fun e w' ⟨he, hb⟩ => ⟨_, he, hb, rfl, rfl⟩
theorem tjoin_fn (A : Option Addr) (n c b o : Nat) (xs : List (List UInt8)) (hn : n = xs.length) (hA : xs ≠ [] → A = some ⟨b, o, none⟩) (hc : n ≤ c) (hl : (Lib.join xs [32]).length ≤ 140737488355328) (hx : xs.length ≤ 140737488355328) :
    Fn 31 [.slice A n c] [] [.seg b o (strs xs)] fun v H' => v = str (Lib.join xs [32]) ∧ H' = [] := by
  refine Fn_of Tryz.func31 rfl rfl fun w0 => ?_
  (repeat' (first | refine J_seq ?_ | refine J_skip ?_ | refine J_yes rfl ?_ | refine J_no rfl ?_))
  refine J_region ?_
  refine JL_all [] rfl ?_
  (repeat' (first | refine J_seq ?_ | refine J_skip ?_ | refine J_yes rfl ?_ | refine J_no rfl ?_))
  refine J_region ?_
  refine JL_evO (gs := [999]) rfl ?_
  refine JL_callR [] (join_fn A n c b o xs [32] hn hA hc hl hx) rfl rfl rfl rfl (by kernel_rfl) ⟨⟨0, _, by simp, rfl, shows_seg _ _ _, seen_seg⟩, trivial⟩ (fun _ => rfl) ?_
  rintro v H' ⟨rfl, rfl⟩
  refine ⟨rfl, ?_⟩
  refine JL_all [] rfl ?_
  exact J_drop [] (by decide) rfl (J_ret ⟨_, rfl, rfl, rfl⟩)
end Go.Proofs.YtkiadfpkgpgbiaaGreatDoor
