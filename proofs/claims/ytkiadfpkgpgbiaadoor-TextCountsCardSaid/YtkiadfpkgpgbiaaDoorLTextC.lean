
/- TextCounts: numbers are written in as many signs as they need, the greater one of two above nothing in no fewer; what they say, digit by digit, is themselves: of any two numbers. No condition but what the row lists. -/
import Derived.Test.YtkiadfpkgpgbiaaDoorTextS
import Derived.Lib.Join
set_option linter.unusedVariables false
set_option linter.unusedSimpArgs false
namespace Go.Proofs.YtkiadfpkgpgbiaaDoor
open Go.RowKit
theorem join_fn (A : Option Addr) (n c b o : Nat) (xs : List (List UInt8)) (sep : List UInt8) (hn : n = xs.length) (hA : xs ≠ [] → A = some ⟨b, o, none⟩) (hc : n ≤ c) (hl : (Lib.join xs sep).length ≤ 140737488355328) (hx : xs.length ≤ 140737488355328) :
    Fn 22 [.slice A n c, str sep] [] [.seg b o (strs xs)] fun v H' => v = str (Lib.join xs sep) ∧ H' = [] := by
  subst hn
  by_cases h0 : xs = []
  · subst h0
    exact Fn.of_below fun w _ => (Any.strings_Join_none Tryd.lays156 Tryd.Builder_Extra_156 A c ⟨sep.toArray⟩ w).mono fun e w' ⟨he, hw⟩ => ⟨_, he, hw ▸ Below.refl _ _, rfl, rfl⟩
  · obtain rfl := hA h0
    refine Fn.of_below fun w hw => ?_
    have hseg := hw.holds (.seg b o (strs xs)) (by simp)
    have hmap : ((xs.map fun x => (⟨x.toArray⟩ : ByteArray)).map (·.data.toList)) = xs := by
      rw [List.map_map]
      exact (List.map_congr_left fun x _ => (rfl : _ = id x)).trans (List.map_id xs)
    have hcell : ∀ (j : Nat) x, (xs.map fun x => (⟨x.toArray⟩ : ByteArray))[j]? = some x → w.cell? ⟨b, o + j, none⟩ = some (.string x) := by
      intro j x hj
      rw [List.getElem?_map] at hj
      obtain ⟨y, hy, rfl⟩ := Option.map_eq_some_iff.1 hj
      exact hseg j _ (strs_get hy)
    have hlt : b < w.heap.size := by
      cases xs with
      | nil => exact absurd rfl h0
      | cons x r => exact World.block_lt_of_cell? w _ (hseg 0 _ rfl)
    have T := Any.strings_Join Tryd.lays156 Tryd.Builder_Extra_156 b o c (xs.map fun x => (⟨x.toArray⟩ : ByteArray)) ⟨sep.toArray⟩ w hcell hlt (by simpa using hx) (by simpa using hc) (by rw [hmap]; exact hl)
    rw [List.length_map, hmap] at T
    exact T.mono fun e w' ⟨he, hb⟩ => ⟨_, he, hb, rfl, rfl⟩
theorem tjoin_fn (A : Option Addr) (n c b o : Nat) (xs : List (List UInt8)) (hn : n = xs.length) (hA : xs ≠ [] → A = some ⟨b, o, none⟩) (hc : n ≤ c) (hl : (Lib.join xs [32]).length ≤ 140737488355328) (hx : xs.length ≤ 140737488355328) :
    Fn 11 [.slice A n c] [] [.seg b o (strs xs)] fun v H' => v = str (Lib.join xs [32]) ∧ H' = [] := by
  refine Fn_of Tryd.func11 rfl rfl fun w0 => ?_
  (repeat' (first | refine J_seq ?_ | refine J_skip ?_ | refine J_yes rfl ?_ | refine J_no rfl ?_))
  refine J_region ?_
  refine JL_all [] rfl ?_
  (repeat' (first | refine J_seq ?_ | refine J_skip ?_ | refine J_yes rfl ?_ | refine J_no rfl ?_))
  refine J_region ?_
  refine JL_evO (gs := [999]) rfl ?_
  refine JL_callR [] (join_fn A n c b o xs [32] hn hA hc hl hx) rfl rfl rfl rfl (by kernel_rfl) ⟨⟨0, _, by simp, rfl, shows_seg _ _ _, seen_seg⟩, trivial⟩ (fun _ => rfl) ?_
  rintro v H' ⟨rfl, rfl⟩
  refine ⟨rfl, ?_⟩
  refine JL_all [] rfl ?_
  exact J_drop [] (by decide) rfl (J_ret ⟨_, rfl, rfl, rfl⟩)
theorem itoa_mono {a b : Int} (h : 0 ≤ a ∧ a ≤ b ∨ a < 0 ∧ b ≤ a) : (Lib.itoa a).length ≤ (Lib.itoa b).length := by
  unfold Lib.itoa
  rcases h with ⟨h1, h2⟩ | ⟨h1, h2⟩
  · rw [if_neg (by omega), if_neg (by omega)]
    exact dd_len _ _ (by omega)
  · rw [if_pos h1, if_pos (by omega), List.length_cons, List.length_cons]
    have := dd_len a.natAbs b.natAbs (by omega)
    omega
theorem wu8 {n : Int} (h : 0 ≤ n ∧ n < 256) : IntKind.u8.wrap n = n := by
  simp only [IntKind.wrap, IntKind.bits, IntKind.signed]
  simp
  omega
theorem decV_take (d : List UInt8) (j : Nat) : decV 0 (d.take j) ≤ decV 0 d := by
  conv => rhs; rw [← List.take_append_drop j d, decV_app]
  exact decV_ge _ _
theorem decV_succ (d : List UInt8) (j : Nat) (b : UInt8) (h : d[j]? = some b) : decV 0 (d.take (j + 1)) = decV 0 (d.take j) * 10 + (b.toNat - 48) := by
  have : d.take (j + 1) = d.take j ++ [b] := by rw [List.take_add_one, h]; rfl
  rw [this, decV_app]; rfl
open Classical in
/-- What the first digits say. -/
noncomputable def preZ (a : Int) (d : List UInt8) (j : Nat) : Int := if a < 0 then -(decV 0 (d.take j) : Int) else (decV 0 (d.take j) : Int)
set_option maxHeartbeats 8000000 in
theorem textCounts_fn (V : LibV) (a : Int) (ha : inB a) (b : Int) (hb : inB b) : Fn 4 [.int .i64 a, .int .i64 b] [] V.heap fun v _ => v = .bool true := by
  obtain ⟨s, hs⟩ : ∃ s, Lib.itoa a = s := ⟨_, rfl⟩
  obtain ⟨t, ht⟩ : ∃ t, Lib.itoa b = t := ⟨_, rfl⟩
  have Ws := write_fn V a ha
  have Wt := write_fn V b hb
  have ls := itoa_len a (by unfold inB at ha; omega)
  have lt := itoa_len b (by unfold inB at hb; omega)
  have hmono : (0 ≤ a ∧ a ≤ b ∨ a < 0 ∧ b ≤ a) → s.length ≤ t.length := fun h => by rw [← hs, ← ht]; exact itoa_mono h
  have hinj : s = t ↔ a = b := ⟨fun h => itoa_inj (by unfold inB at ha; omega) (by unfold inB at hb; omega) (by rw [hs, ht]; exact h), fun h => by rw [← hs, ← ht, h]⟩
  obtain ⟨k, d, hk, hsd, hsk, hd, hdne, hdig, hdv, hdh⟩ : ∃ (k : Nat) (d : List UInt8), k = (if a < 0 then 1 else 0) ∧ s.length = k + d.length ∧ (∀ j, s[k + j]? = d[j]?) ∧ preZ a d d.length = a ∧ d ≠ [] ∧ (∀ x ∈ d, digB x = true) ∧ (∀ j, (decV 0 (d.take j) : Int) ≤ (if a < 0 then 9223372036854775808 else 9223372036854775807)) ∧ (d.length = 1 ∨ d[0]? ≠ some 48) ∧ (a < 0 → s[0]? = some 45) := by
    by_cases hn : a < 0
    · refine ⟨1, Lib.decDigits a.natAbs, by rw [if_pos hn], ?_, fun j => ?_, ?_, dd_ne _, fun x hx => List.all_eq_true.1 (dd_all _) x hx, fun j => ?_, ?_, fun _ => ?_⟩
      · rw [← hs]; unfold Lib.itoa; rw [if_pos hn, List.length_cons]; omega
      · rw [← hs]; unfold Lib.itoa; rw [if_pos hn, Nat.add_comm, List.getElem?_cons_succ]
      · unfold preZ; rw [if_pos hn, List.take_length, dd_val]; omega
      · have := decV_take (Lib.decDigits a.natAbs) j
        rw [dd_val] at this
        rw [if_pos hn]; unfold inB at ha; omega
      · refine .inr fun h => ?_
        have := dd_head a.natAbs (by omega)
        rw [List.head?_eq_getElem?] at this
        exact this h
      · rw [← hs]; unfold Lib.itoa; rw [if_pos hn]; rfl
    · refine ⟨0, Lib.decDigits a.toNat, by rw [if_neg hn], ?_, fun j => ?_, ?_, dd_ne _, fun x hx => List.all_eq_true.1 (dd_all _) x hx, fun j => ?_, ?_, fun h => absurd h hn⟩
      · rw [← hs]; unfold Lib.itoa; rw [if_neg hn]; omega
      · rw [← hs]; unfold Lib.itoa; rw [if_neg hn, Nat.zero_add]
      · unfold preZ; rw [if_neg hn, List.take_length, dd_val]; omega
      · have := decV_take (Lib.decDigits a.toNat) j
        rw [dd_val] at this
        rw [if_neg hn]; unfold inB at ha; omega
      · by_cases h0 : a = 0
        · subst h0; exact .inl (by rw [show (0 : Int).toNat = 0 from rfl, dd_lt (by omega)]; rfl)
        · refine .inr fun h => ?_
          have := dd_head a.toNat (by omega)
          rw [List.head?_eq_getElem?] at this
          exact this h
  obtain ⟨hdh, h45⟩ := hdh
  have hdl := List.length_pos_iff.2 hdne
  have hk1 : k ≤ 1 := by rw [hk]; split <;> omega
  rw [hs] at Ws ls
  rw [ht] at Wt lt
  have hjoin : Lib.join [s, t] [32] = s ++ [32] ++ t := by simp [Lib.join, List.intercalate]
  refine Fn_of Tryd.func4 rfl rfl fun w0 => ?_
  (repeat' (first | refine J_seq ?_ | refine J_skip ?_ | refine J_yes rfl ?_ | refine J_no rfl ?_))
  refine J_region ?_
  refine JL_all [] rfl ?_
  (repeat' (first | refine J_seq ?_ | refine J_skip ?_ | refine J_yes rfl ?_ | refine J_no rfl ?_))
  refine J_region ?_
  refine JL_callR [] (shown2_fn V) rfl rfl rfl rfl (by kernel_rfl) ⟨⟨0, by simp, rfl⟩, ⟨1, by simp, rfl⟩, ⟨2, by simp, rfl⟩, trivial⟩ (fun _ => rfl) ?_
  rintro v H' ⟨rfl, rfl⟩
  refine ⟨rfl, ?_⟩
  refine JL_all [] rfl ?_
  (repeat' (first | refine J_seq ?_ | refine J_skip ?_ | refine J_yes rfl ?_ | refine J_no rfl ?_))
  refine J_region ?_
  refine JL_all [] rfl ?_
  (repeat' (first | refine J_seq ?_ | refine J_skip ?_ | refine J_yes rfl ?_ | refine J_no rfl ?_))
  (repeat' (first | refine J_seq ?_ | refine J_skip ?_ | refine J_yes rfl ?_ | refine J_no rfl ?_))
  refine J_region ?_
  refine JL_evO (gs := [999]) rfl ?_
  refine JL_callR [] Ws rfl rfl rfl rfl (by kernel_rfl) ⟨⟨0, by simp, rfl⟩, ⟨1, by simp, rfl⟩, ⟨2, by simp, rfl⟩, trivial⟩ (fun _ => rfl) ?_
  rintro v H' ⟨rfl, rfl⟩
  refine ⟨rfl, ?_⟩
  refine JL_all [] rfl ?_
  (repeat' (first | refine J_seq ?_ | refine J_skip ?_ | refine J_yes rfl ?_ | refine J_no rfl ?_))
  refine J_region ?_
  refine JL_evO (gs := [999]) rfl ?_
  refine JL_callR [] Wt rfl rfl rfl rfl (by kernel_rfl) ⟨⟨0, by simp, rfl⟩, ⟨1, by simp, rfl⟩, ⟨2, by simp, rfl⟩, trivial⟩ (fun _ => rfl) ?_
  rintro v H' ⟨rfl, rfl⟩
  refine ⟨rfl, ?_⟩
  refine JL_all [] rfl ?_
  refine J_seq ?_
  refine J_cut [(47, .bool false), (0, .int .i64 a), (1, .int .i64 b), (6, str s), (7, str t)] V.heap ?_ ?_
  · (repeat' (first | refine J_seq ?_ | refine J_skip ?_ | refine J_yes rfl ?_ | refine J_no rfl ?_))
    refine J_region ?_
    refine JL_evO (gs := [999]) rfl ?_
    refine JL_evO (gs := [999]) rfl ?_
    refine JL_evO (gs := [999]) rfl ?_
    by_cases h1 : 0 ≤ a
    · refine JL_set 20 (v' := .bool true) rfl (congrArg Value.bool (cdec_yes h1)) ?_
      refine JL_run [2] rfl ?_
      by_cases h2 : a ≤ b
      · have hlen : ¬ ((t.length : Int) < (s.length : Int)) := by
          have := hmono (.inl ⟨h1, h2⟩)
          omega
        refine JL_set 25 (v' := .bool true) rfl (congrArg Value.bool (cdec_yes h2)) ?_
        refine JL_run [2, 7] rfl ?_
        refine JL_set 32 (v' := .bool false) rfl (congrArg Value.bool (cdec_no hlen)) ?_
        refine JL_run [2, 7, 14] rfl ?_
        refine JL_set 35 (v' := .bool false) rfl (congrArg Value.bool (cdec_no (by omega))) ?_
        refine JL_all [2, 7, 14, 17, 22] rfl ?_
        exact ⟨[0, 1, 2], ⟨rfl, rfl, rfl, rfl, rfl, trivial⟩, by decide, rfl⟩
      · refine JL_set 25 (v' := .bool false) rfl (congrArg Value.bool (cdec_no h2)) ?_
        refine JL_run [2, 7, 14] rfl ?_
        refine JL_set 35 (v' := .bool false) rfl (congrArg Value.bool (cdec_no (by omega))) ?_
        refine JL_all [2, 7, 14, 17, 22] rfl ?_
        exact ⟨[0, 1, 2], ⟨rfl, rfl, rfl, rfl, rfl, trivial⟩, by decide, rfl⟩
    · refine JL_set 20 (v' := .bool false) rfl (congrArg Value.bool (cdec_no h1)) ?_
      refine JL_run [2, 7, 14] rfl ?_
      refine JL_set 35 (v' := .bool true) rfl (congrArg Value.bool (cdec_yes (by omega))) ?_
      refine JL_run [2, 7, 14, 17] rfl ?_
      by_cases h2 : b ≤ a
      · have hlen : ¬ ((t.length : Int) < (s.length : Int)) := by
          have := hmono (.inr ⟨by omega, h2⟩)
          omega
        refine JL_set 40 (v' := .bool true) rfl (congrArg Value.bool (cdec_yes h2)) ?_
        refine JL_all [2, 7, 14, 17, 22] rfl ?_
        exact ⟨[0, 1, 2], ⟨congrArg some (congrArg Value.bool (cdec_no hlen)), rfl, rfl, rfl, rfl, trivial⟩, by decide, rfl⟩
      · refine JL_set 40 (v' := .bool false) rfl (congrArg Value.bool (cdec_no h2)) ?_
        refine JL_all [2, 7, 14, 17, 22] rfl ?_
        exact ⟨[0, 1, 2], ⟨rfl, rfl, rfl, rfl, rfl, trivial⟩, by decide, rfl⟩
  refine J_no rfl (J_skip ?_)
  (repeat' (first | refine J_seq ?_ | refine J_skip ?_ | refine J_yes rfl ?_ | refine J_no rfl ?_))
  refine J_region ?_
  refine JL_all [] rfl ?_
  (repeat' (first | refine J_seq ?_ | refine J_skip ?_ | refine J_yes rfl ?_ | refine J_no rfl ?_))
  refine J_region ?_
  refine JL_all [] rfl ?_
  refine J_cut [(9, .int .i64 k), (8, .int .i64 0), (0, .int .i64 a), (1, .int .i64 b), (6, str s), (7, str t)] V.heap ?_ ?_
  · (repeat' (first | refine J_seq ?_ | refine J_skip ?_ | refine J_yes rfl ?_ | refine J_no rfl ?_))
    refine J_region ?_
    refine JL_all [] rfl ?_
    refine J_dec rfl (fun hn => ?_) (fun hn => J_skip ?_)
    · (repeat' (first | refine J_seq ?_ | refine J_skip ?_ | refine J_yes rfl ?_ | refine J_no rfl ?_))
      refine J_region ?_
      refine JL_all [] rfl ?_
      exact ⟨[0, 1, 2], ⟨by rw [hk, if_pos hn]; rfl, rfl, rfl, rfl, rfl, rfl, trivial⟩, by decide, rfl⟩
    · exact ⟨[0, 1, 2], ⟨by rw [hk, if_neg hn]; rfl, rfl, rfl, rfl, rfl, rfl, trivial⟩, by decide, rfl⟩
  have hpre0 : preZ a d 0 = 0 := by unfold preZ; split <;> simp [decV]
  (repeat' (first | refine J_seq ?_ | refine J_skip ?_ | refine J_yes rfl ?_ | refine J_no rfl ?_))
  refine J_region ?_
  refine JL_all [] rfl ?_
  refine J_block ?_
  refine J_loop (σ := Nat) (fun j => [(10, .int .i64 ((k + j : Nat) : Int)), (8, .int .i64 (preZ a d j)), (9, .int .i64 k), (0, .int .i64 a), (1, .int .i64 b), (6, str s), (7, str t)]) (fun _ => V.heap) (fun j => j ≤ d.length) (fun j => d.length - j)
    0 [0, 1, 2] ⟨rfl, by rw [hpre0]; rfl, rfl, rfl, rfl, rfl, rfl, trivial⟩ (by decide) rfl (Nat.zero_le _) ?_
  intro j hj
  (repeat' (first | refine J_seq ?_ | refine J_skip ?_ | refine J_yes rfl ?_ | refine J_no rfl ?_))
  refine J_region ?_
  refine JL_all [] rfl ?_
  refine J_dec rfl (fun hlt => J_skip ?_) (fun hge => J_exit ?_)
  · have hlt' : j < d.length := by
      have h' : ((k + j : Nat) : Int) < (s.length : Int) := hlt
      omega
    obtain ⟨x, hx⟩ : ∃ x, d[j]? = some x := ⟨d[j], List.getElem?_eq_getElem hlt'⟩
    have hsx : s[k + j]? = some x := by rw [hsk, hx]
    have hxd := hdig x (List.mem_of_getElem? hx)
    have hxn : 48 ≤ x.toNat ∧ x.toNat ≤ 57 := by simpa [digB] using hxd
    have hstep := decV_succ d j x hx
    have hb1 := hdv j
    have hb2 := hdv (j + 1)
    have hzj : preZ a d j = (if a < 0 then -(decV 0 (d.take j) : Int) else (decV 0 (d.take j) : Int)) := by unfold preZ; split <;> rfl
    have hzs : preZ a d (j + 1) = (if a < 0 then -(decV 0 (d.take (j + 1)) : Int) else (decV 0 (d.take (j + 1)) : Int)) := by unfold preZ; split <;> rfl
    refine J_seq (J_block ?_)
    (repeat' (first | refine J_seq ?_ | refine J_skip ?_ | refine J_yes rfl ?_ | refine J_no rfl ?_))
    refine J_region ?_
    refine JL_evO (gs := [999]) rfl ?_
    refine JL_evO (gs := [999]) rfl ?_
    refine JL_val [] (OpV_chr rfl rfl rfl rfl hsx) rfl ?_
    refine JL_evO (gs := [999]) rfl ?_
    refine JL_evO (gs := [999]) rfl ?_
    refine JL_set 61 (v' := .bool false) rfl (congrArg Value.bool (cdec_no (by omega))) ?_
    refine JL_run [4] rfl ?_
    refine JL_val [4] (OpV_chr rfl rfl rfl rfl hsx) rfl ?_
    refine JL_all [4] rfl ?_
    refine J_dec rfl (fun h => absurd h (by omega)) (fun _ => J_skip ?_)
    (repeat' (first | refine J_seq ?_ | refine J_skip ?_ | refine J_yes rfl ?_ | refine J_no rfl ?_))
    refine J_region ?_
    refine JL_all [] rfl ?_
    refine J_dec rfl (fun hn => ?_) (fun hn => ?_)
    · rw [if_pos hn] at hb1 hb2 hzj hzs
      (repeat' (first | refine J_seq ?_ | refine J_skip ?_ | refine J_yes rfl ?_ | refine J_no rfl ?_))
      refine J_region ?_
      refine JL_evO (gs := [999]) rfl ?_
      refine JL_evO (gs := [999]) rfl ?_
      refine JL_set 70 (v' := .int .i64 (10 * preZ a d j)) rfl (congrArg (Value.int .i64) (w64 (by omega))) ?_
      refine JL_evO (gs := [999]) rfl ?_
      refine JL_evO (gs := [999]) rfl ?_
      refine JL_val [] (OpV_chr rfl rfl rfl rfl hsx) rfl ?_
      refine JL_evO (gs := [999]) rfl ?_
      refine JL_set 74 (v' := .int .u8 ((x.toNat : Int) - 48)) rfl (congrArg (Value.int .u8) (wu8 (by omega))) ?_
      refine JL_evO (gs := [999]) rfl ?_
      refine JL_set 75 (v' := .int .i64 ((x.toNat : Int) - 48)) rfl (congrArg (Value.int .i64) (w64 (by omega))) ?_
      refine JL_evO (gs := [999]) rfl ?_
      refine JL_set 76 (v' := .int .i64 (preZ a d (j + 1))) rfl (congrArg (Value.int .i64) ((w64 (by omega)).trans (by omega))) ?_
      refine JL_all [] rfl ?_
      (repeat' (first | refine J_seq ?_ | refine J_skip ?_ | refine J_yes rfl ?_ | refine J_no rfl ?_))
      refine J_region ?_
      refine JL_all [] rfl ?_
      refine ⟨j + 1, [0, 1, 2], ⟨?_, rfl, rfl, rfl, rfl, rfl, rfl, trivial⟩, by decide, rfl, by omega, by omega⟩
      show some (Value.int .i64 (IntKind.i64.wrap (((k + j : Nat) : Int) + 1))) = _
      rw [w64 (by omega)]; rfl
    · rw [if_neg hn] at hb1 hb2 hzj hzs
      (repeat' (first | refine J_seq ?_ | refine J_skip ?_ | refine J_yes rfl ?_ | refine J_no rfl ?_))
      refine J_region ?_
      refine JL_evO (gs := [999]) rfl ?_
      refine JL_evO (gs := [999]) rfl ?_
      refine JL_set 78 (v' := .int .i64 (10 * preZ a d j)) rfl (congrArg (Value.int .i64) (w64 (by omega))) ?_
      refine JL_evO (gs := [999]) rfl ?_
      refine JL_evO (gs := [999]) rfl ?_
      refine JL_val [] (OpV_chr rfl rfl rfl rfl hsx) rfl ?_
      refine JL_evO (gs := [999]) rfl ?_
      refine JL_set 82 (v' := .int .u8 ((x.toNat : Int) - 48)) rfl (congrArg (Value.int .u8) (wu8 (by omega))) ?_
      refine JL_evO (gs := [999]) rfl ?_
      refine JL_set 83 (v' := .int .i64 ((x.toNat : Int) - 48)) rfl (congrArg (Value.int .i64) (w64 (by omega))) ?_
      refine JL_evO (gs := [999]) rfl ?_
      refine JL_set 84 (v' := .int .i64 (preZ a d (j + 1))) rfl (congrArg (Value.int .i64) ((w64 (by omega)).trans (by omega))) ?_
      refine JL_all [] rfl ?_
      (repeat' (first | refine J_seq ?_ | refine J_skip ?_ | refine J_yes rfl ?_ | refine J_no rfl ?_))
      refine J_region ?_
      refine JL_all [] rfl ?_
      refine ⟨j + 1, [0, 1, 2], ⟨?_, rfl, rfl, rfl, rfl, rfl, rfl, trivial⟩, by decide, rfl, by omega, by omega⟩
      show some (Value.int .i64 (IntKind.i64.wrap (((k + j : Nat) : Int) + 1))) = _
      rw [w64 (by omega)]; rfl
  have hjl : j = d.length := by
    have h' : ¬ (((k + j : Nat) : Int) < (s.length : Int)) := hge
    omega
  subst hjl
  rw [hd]
  obtain ⟨x0, hx0⟩ : ∃ x, d[0]? = some x := ⟨d[0], List.getElem?_eq_getElem hdl⟩
  have hsx0 : s[k]? = some x0 := by have := hsk 0; rw [Nat.add_zero, hx0] at this; exact this
  (repeat' (first | refine J_seq ?_ | refine J_skip ?_ | refine J_yes rfl ?_ | refine J_no rfl ?_))
  refine J_region ?_
  refine JL_run [] rfl ?_
  refine JL_set 88 (v' := .bool true) rfl (congrArg Value.bool (cdec_yes rfl)) ?_
  refine JL_run [3] rfl ?_
  refine JL_set 94 (v' := .bool true) rfl (congrArg Value.bool (cdec_yes (show (k : Int) < (s.length : Int) by omega))) ?_
  refine JL_run [3, 9] rfl ?_
  by_cases hone : d.length = 1
  · refine JL_set 100 (v' := .bool true) rfl (congrArg Value.bool (cdec_yes (show (s.length : Int) = IntKind.i64.wrap ((k : Int) + 1) by rw [w64 (by omega)]; omega))) ?_
    refine JL_run [3, 9, 15] rfl ?_
    refine JL_run [3, 9, 15, 22] rfl ?_
    by_cases hn : 0 ≤ a
    · refine JL_set 110 (v' := .bool true) rfl (congrArg Value.bool (cdec_yes hn)) ?_
      refine JL_run [3, 9, 15, 22, 25] rfl ?_
      refine JL_run [3, 9, 15, 22, 25, 31] rfl ?_
      refine JL_litG [3, 9, 15, 22, 25, 31] rfl rfl rfl rfl rfl rfl rfl (fun _ => rfl) fun gl => ?_
      refine JL_callR [3, 9, 15, 22, 25, 31] (tjoin_fn (some ⟨gl, 0, none⟩) 2 2 gl 0 [s, t] rfl (fun _ => rfl) (Nat.le_refl _) (by rw [hjoin]; simp; omega) (by simp)) rfl rfl rfl rfl (by kernel_rfl) ⟨⟨0, _, by simp, rfl, shows_blk _ _ _ (0, 0), .inr rfl⟩, trivial⟩ (fun _ => rfl) ?_
      rintro v H' ⟨rfl, rfl⟩
      refine ⟨rfl, ?_⟩
      rw [hjoin]
      refine JL_evO (gs := [3, 9, 15, 22, 25, 31]) rfl ?_
      refine JL_val [3, 9, 15, 22, 25, 31] (OpV_cat (m := [32]) rfl rfl rfl (by simp; omega)) rfl ?_
      refine JL_evO (gs := [3, 9, 15, 22, 25, 31]) rfl ?_
      refine JL_val [3, 9, 15, 22, 25, 31] (OpV_cat rfl rfl rfl (by simp; omega)) rfl ?_
      refine JL_val [3, 9, 15, 22, 25, 31] (OpV_eqs rfl rfl rfl) rfl ?_
      refine JL_evO (gs := [3, 9, 15, 22, 25, 31]) rfl ?_
      refine JL_evO (gs := [3, 9, 15, 22, 25, 31]) rfl ?_
      refine JL_set 127 (v' := .bool true) rfl (congrArg Value.bool (cdec_yes rfl)) ?_
      refine JL_evO (gs := [3, 9, 15, 22, 25, 31, 42]) rfl ?_
      refine JL_evO (gs := [3, 9, 15, 22, 25, 31, 42]) rfl ?_
      refine JL_val [3, 9, 15, 22, 25, 31, 42] (OpV_eqs rfl rfl rfl) rfl ?_
      refine JL_all [3, 9, 15, 22, 25, 31, 42] rfl ?_
      refine J_ret ⟨_, rfl, congrArg Value.bool ?_⟩
      show (cdec (s = t) == cdec (a = b)) = true
      rw [cdec_iff hinj]; simp
    · refine JL_set 110 (v' := .bool false) rfl (congrArg Value.bool (cdec_no hn)) ?_
      refine JL_run [3, 9, 15, 22, 25] rfl ?_
      refine JL_val [3, 9, 15, 22, 25] (OpV_chr (i := 0) rfl rfl rfl rfl (h45 (by omega))) rfl ?_
      refine JL_run [3, 9, 15, 22, 25] rfl ?_
      refine JL_set 116 (v' := .bool true) rfl (congrArg Value.bool (cdec_yes rfl)) ?_
      refine JL_run [3, 9, 15, 22, 25, 31] rfl ?_
      refine JL_litG [3, 9, 15, 22, 25, 31] rfl rfl rfl rfl rfl rfl rfl (fun _ => rfl) fun gl => ?_
      refine JL_callR [3, 9, 15, 22, 25, 31] (tjoin_fn (some ⟨gl, 0, none⟩) 2 2 gl 0 [s, t] rfl (fun _ => rfl) (Nat.le_refl _) (by rw [hjoin]; simp; omega) (by simp)) rfl rfl rfl rfl (by kernel_rfl) ⟨⟨0, _, by simp, rfl, shows_blk _ _ _ (0, 0), .inr rfl⟩, trivial⟩ (fun _ => rfl) ?_
      rintro v H' ⟨rfl, rfl⟩
      refine ⟨rfl, ?_⟩
      rw [hjoin]
      refine JL_evO (gs := [3, 9, 15, 22, 25, 31]) rfl ?_
      refine JL_val [3, 9, 15, 22, 25, 31] (OpV_cat (m := [32]) rfl rfl rfl (by simp; omega)) rfl ?_
      refine JL_evO (gs := [3, 9, 15, 22, 25, 31]) rfl ?_
      refine JL_val [3, 9, 15, 22, 25, 31] (OpV_cat rfl rfl rfl (by simp; omega)) rfl ?_
      refine JL_val [3, 9, 15, 22, 25, 31] (OpV_eqs rfl rfl rfl) rfl ?_
      refine JL_evO (gs := [3, 9, 15, 22, 25, 31]) rfl ?_
      refine JL_evO (gs := [3, 9, 15, 22, 25, 31]) rfl ?_
      refine JL_set 127 (v' := .bool true) rfl (congrArg Value.bool (cdec_yes rfl)) ?_
      refine JL_evO (gs := [3, 9, 15, 22, 25, 31, 42]) rfl ?_
      refine JL_evO (gs := [3, 9, 15, 22, 25, 31, 42]) rfl ?_
      refine JL_val [3, 9, 15, 22, 25, 31, 42] (OpV_eqs rfl rfl rfl) rfl ?_
      refine JL_all [3, 9, 15, 22, 25, 31, 42] rfl ?_
      refine J_ret ⟨_, rfl, congrArg Value.bool ?_⟩
      show (cdec (s = t) == cdec (a = b)) = true
      rw [cdec_iff hinj]; simp
  · have hx48 : x0.toNat ≠ 48 := by
      intro e
      have : x0 = 48 := UInt8.toNat_inj.1 e
      rw [this] at hx0
      exact (hdh.resolve_left hone) hx0
    refine JL_set 100 (v' := .bool false) rfl (congrArg Value.bool (cdec_no (show ¬ (s.length : Int) = IntKind.i64.wrap ((k : Int) + 1) by rw [w64 (by omega)]; omega))) ?_
    refine JL_run [3, 9, 15] rfl ?_
    refine JL_val [3, 9, 15] (OpV_chr rfl rfl rfl rfl hsx0) rfl ?_
    refine JL_run [3, 9, 15] rfl ?_
    refine JL_set 107 (v' := .bool true) rfl (congrArg Value.bool (cdec_yes (show ((x0.toNat : Int)) ≠ 48 by omega))) ?_
    refine JL_run [3, 9, 15, 22] rfl ?_
    by_cases hn : 0 ≤ a
    · refine JL_set 110 (v' := .bool true) rfl (congrArg Value.bool (cdec_yes hn)) ?_
      refine JL_run [3, 9, 15, 22, 25] rfl ?_
      refine JL_run [3, 9, 15, 22, 25, 31] rfl ?_
      refine JL_litG [3, 9, 15, 22, 25, 31] rfl rfl rfl rfl rfl rfl rfl (fun _ => rfl) fun gl => ?_
      refine JL_callR [3, 9, 15, 22, 25, 31] (tjoin_fn (some ⟨gl, 0, none⟩) 2 2 gl 0 [s, t] rfl (fun _ => rfl) (Nat.le_refl _) (by rw [hjoin]; simp; omega) (by simp)) rfl rfl rfl rfl (by kernel_rfl) ⟨⟨0, _, by simp, rfl, shows_blk _ _ _ (0, 0), .inr rfl⟩, trivial⟩ (fun _ => rfl) ?_
      rintro v H' ⟨rfl, rfl⟩
      refine ⟨rfl, ?_⟩
      rw [hjoin]
      refine JL_evO (gs := [3, 9, 15, 22, 25, 31]) rfl ?_
      refine JL_val [3, 9, 15, 22, 25, 31] (OpV_cat (m := [32]) rfl rfl rfl (by simp; omega)) rfl ?_
      refine JL_evO (gs := [3, 9, 15, 22, 25, 31]) rfl ?_
      refine JL_val [3, 9, 15, 22, 25, 31] (OpV_cat rfl rfl rfl (by simp; omega)) rfl ?_
      refine JL_val [3, 9, 15, 22, 25, 31] (OpV_eqs rfl rfl rfl) rfl ?_
      refine JL_evO (gs := [3, 9, 15, 22, 25, 31]) rfl ?_
      refine JL_evO (gs := [3, 9, 15, 22, 25, 31]) rfl ?_
      refine JL_set 127 (v' := .bool true) rfl (congrArg Value.bool (cdec_yes rfl)) ?_
      refine JL_evO (gs := [3, 9, 15, 22, 25, 31, 42]) rfl ?_
      refine JL_evO (gs := [3, 9, 15, 22, 25, 31, 42]) rfl ?_
      refine JL_val [3, 9, 15, 22, 25, 31, 42] (OpV_eqs rfl rfl rfl) rfl ?_
      refine JL_all [3, 9, 15, 22, 25, 31, 42] rfl ?_
      refine J_ret ⟨_, rfl, congrArg Value.bool ?_⟩
      show (cdec (s = t) == cdec (a = b)) = true
      rw [cdec_iff hinj]; simp
    · refine JL_set 110 (v' := .bool false) rfl (congrArg Value.bool (cdec_no hn)) ?_
      refine JL_run [3, 9, 15, 22, 25] rfl ?_
      refine JL_val [3, 9, 15, 22, 25] (OpV_chr (i := 0) rfl rfl rfl rfl (h45 (by omega))) rfl ?_
      refine JL_run [3, 9, 15, 22, 25] rfl ?_
      refine JL_set 116 (v' := .bool true) rfl (congrArg Value.bool (cdec_yes rfl)) ?_
      refine JL_run [3, 9, 15, 22, 25, 31] rfl ?_
      refine JL_litG [3, 9, 15, 22, 25, 31] rfl rfl rfl rfl rfl rfl rfl (fun _ => rfl) fun gl => ?_
      refine JL_callR [3, 9, 15, 22, 25, 31] (tjoin_fn (some ⟨gl, 0, none⟩) 2 2 gl 0 [s, t] rfl (fun _ => rfl) (Nat.le_refl _) (by rw [hjoin]; simp; omega) (by simp)) rfl rfl rfl rfl (by kernel_rfl) ⟨⟨0, _, by simp, rfl, shows_blk _ _ _ (0, 0), .inr rfl⟩, trivial⟩ (fun _ => rfl) ?_
      rintro v H' ⟨rfl, rfl⟩
      refine ⟨rfl, ?_⟩
      rw [hjoin]
      refine JL_evO (gs := [3, 9, 15, 22, 25, 31]) rfl ?_
      refine JL_val [3, 9, 15, 22, 25, 31] (OpV_cat (m := [32]) rfl rfl rfl (by simp; omega)) rfl ?_
      refine JL_evO (gs := [3, 9, 15, 22, 25, 31]) rfl ?_
      refine JL_val [3, 9, 15, 22, 25, 31] (OpV_cat rfl rfl rfl (by simp; omega)) rfl ?_
      refine JL_val [3, 9, 15, 22, 25, 31] (OpV_eqs rfl rfl rfl) rfl ?_
      refine JL_evO (gs := [3, 9, 15, 22, 25, 31]) rfl ?_
      refine JL_evO (gs := [3, 9, 15, 22, 25, 31]) rfl ?_
      refine JL_set 127 (v' := .bool true) rfl (congrArg Value.bool (cdec_yes rfl)) ?_
      refine JL_evO (gs := [3, 9, 15, 22, 25, 31, 42]) rfl ?_
      refine JL_evO (gs := [3, 9, 15, 22, 25, 31, 42]) rfl ?_
      refine JL_val [3, 9, 15, 22, 25, 31, 42] (OpV_eqs rfl rfl rfl) rfl ?_
      refine JL_all [3, 9, 15, 22, 25, 31, 42] rfl ?_
      refine J_ret ⟨_, rfl, congrArg Value.bool ?_⟩
      show (cdec (s = t) == cdec (a = b)) = true
      rw [cdec_iff hinj]; simp
end Go.Proofs.YtkiadfpkgpgbiaaDoor
