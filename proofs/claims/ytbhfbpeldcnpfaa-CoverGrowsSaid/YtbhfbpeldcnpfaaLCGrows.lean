
/- CoverGrows: a node more is a cover still, a node less is none of the fewest. No condition. -/
import Derived.Test.YtbhfbpeldcnpfaaCovT
import Derived.Test.YtbhfbpeldcnpfaaDrawn17
import Derived.Test.YtbhfbpeldcnpfaaShown17
import Derived.Test.YtbhfbpeldcnpfaaRwM
namespace Go.Proofs.Ytbhfbpeldcnpfaa
open Go.RowKit
/-- All nodes of a side. -/
def wholeL (k : Nat) : List Int := (List.range k).map fun (i : Nat) => ((i + 1 : Nat) : Int)
theorem wholeL_succ (k : Nat) : wholeL (k + 1) = wholeL k ++ [((k + 1 : Nat) : Int)] := by
  unfold wholeL
  rw [List.range_succ, List.map_append]; rfl
theorem wholeL_length (k : Nat) : (wholeL k).length = k := by simp [wholeL]
theorem mem_wholeL {k : Nat} {x : Int} : x ∈ wholeL k ↔ 1 ≤ x ∧ x ≤ k := by
  unfold wholeL
  rw [List.mem_map]
  constructor
  · rintro ⟨i, hi, rfl⟩
    have := List.mem_range.1 hi
    omega
  · rintro ⟨h1, h2⟩
    exact ⟨(x - 1).toNat, List.mem_range.2 (by omega), by omega⟩
theorem wholeL_side (k : Nat) : IsSide k (wholeL k) := by
  refine ⟨?_, fun x hx => mem_wholeL.1 hx⟩
  unfold wholeL
  rw [List.pairwise_map]
  exact List.pairwise_lt_range.imp fun h => by omega
theorem ints_one_take (l : List Int) (k : Nat) : one ((ints l).take k) = true := by
  rw [show (ints l).take k = ints (l.take k) by unfold ints; rw [List.map_take]]
  exact one_ints' _
theorem ints_one_drop (l : List Int) (k : Nat) : one ((ints l).drop k) = true := by
  rw [show (ints l).drop k = ints (l.drop k) by unfold ints; rw [List.map_drop]]
  exact one_ints' _
set_option maxHeartbeats 4000000 in
theorem cgrows_fn (sides : Int) (hs : inB sides) (A : Option Addr) (c b o : Nat) (l : List Int) (hA : l ≠ [] → A = some ⟨b, o, none⟩) (hl : ∀ x ∈ l, inB x) (hsz : l.length * 8 ≤ 140737488351232) (at_ : Int) (hat : inB at_) :
    Fn 12 [.int .i64 sides, .slice A l.length c, .int .i64 at_] [] [.seg b o (ints l)] fun v _ => v = .bool true := by
  refine Fn_of Try.func12 rfl rfl fun w0 => ?_
  (repeat' (first | refine J_seq ?_ | refine J_skip ?_ | refine J_yes rfl ?_ | refine J_no rfl ?_))
  refine J_region ?_
  refine JL_all [] rfl ?_
  (repeat' (first | refine J_seq ?_ | refine J_skip ?_ | refine J_yes rfl ?_ | refine J_no rfl ?_))
  refine J_region ?_
  refine JL_callR [] (shown17_fn) rfl rfl rfl rfl (by kernel_rfl) trivial (fun _ => rfl) ?_
  rintro v H' ⟨rfl, rfl⟩
  refine ⟨rfl, ?_⟩
  refine JL_all [] rfl ?_
  (repeat' (first | refine J_seq ?_ | refine J_skip ?_ | refine J_yes rfl ?_ | refine J_no rfl ?_))
  refine J_region ?_
  refine JL_all [] rfl ?_
  refine J_no rfl (J_skip ?_)
  (repeat' (first | refine J_seq ?_ | refine J_skip ?_ | refine J_yes rfl ?_ | refine J_no rfl ?_))
  refine J_region ?_
  refine JL_run [] rfl ?_
  refine JL_callR [] (drawn17_fn sides hs A c b o l hA hl (by omega)) rfl rfl rfl rfl (by kernel_rfl) ⟨⟨0, _, by simp, rfl, shows_seg _ _ _, seen_seg⟩, trivial⟩ (fun _ => rfl) ?_
  rintro v H' ⟨g, A1, c1, hg, hg7, hg7', hg24, rfl, rfl⟩
  refine ⟨rfl, ?_⟩
  have h1 := hg.left
  have h2 := hg.right
  obtain ⟨nl, hnl⟩ : ∃ n : Nat, g.left = n := ⟨g.left.toNat, by omega⟩
  obtain ⟨nr, hnr⟩ : ∃ n : Nat, g.right = n := ⟨g.right.toNat, by omega⟩
  refine JL_know (own_is 0 rfl) fun ⟨_, _, hA1, hl1⟩ => ?_
  obtain ⟨ge, hA1⟩ := own_at hA1 hl1
  have hA1' := edgs_at hA1
  refine JL_alloc rfl rfl rfl (fun _ => rfl) fun p8 => ?_
  refine JL_store 0 rfl rfl rfl rfl rfl [] rfl ?_
  refine JL_nil ?_
  (repeat' (first | refine J_seq ?_ | refine J_skip ?_ | refine J_yes rfl ?_ | refine J_no rfl ?_))
  refine J_region ?_
  refine JL_val [] (v := grV g A1 c1) (OpV_blk 0 rfl rfl rfl rfl) rfl ?_
  refine JL_callR [] (pairs_fn g hg A1 c1 ge 0 hA1' nl hnl) rfl rfl rfl rfl (by kernel_rfl) ⟨⟨1, _, by simp, rfl, shows_ownS hA1, seen_ownS hA1⟩, trivial⟩ (fun _ => rfl) ?_
  rintro v H' ⟨f, Ap, cp, hf, rfl, rfl⟩
  refine ⟨rfl, ?_⟩
  have hpM := flow_match hg hf.1 hnl hnr
  have hpN := flow_no_more hg hf hnl hnr
  have hpl := pairsL_length f nl g.edges.length
  generalize pairsL f nl g.edges.length = pl at hpM hpN hpl
  have hprng := hpM.rng
  have hpin : ∀ x ∈ pl, inB x := fun x hx => by have := hprng x hx; unfold inB; omega
  refine JL_all [] rfl ?_
  refine J_know (own_is 0 rfl) fun ⟨_, _, hAp, hp1⟩ => ?_
  obtain ⟨gp, hAp⟩ := own_at hAp hp1
  (repeat' (first | refine J_seq ?_ | refine J_skip ?_ | refine J_yes rfl ?_ | refine J_no rfl ?_))
  refine J_region ?_
  refine JL_val [] (v := grV g A1 c1) (OpV_blk 1 rfl rfl rfl rfl) rfl ?_
  refine JL_run [] rfl ?_
  refine JL_callR [] (cof_fn g hg A1 c1 ge 0 hA1' pl (by omega) hpin Ap cp gp 0 (ints_at hAp)) rfl rfl rfl rfl (by kernel_rfl) ⟨⟨2, _, by simp, rfl, shows_ownS hA1, seen_ownS hA1⟩, ⟨0, _, by simp, rfl, shows_ownS hAp, seen_ownS hAp⟩, trivial⟩ (fun _ => rfl) ?_
  rintro v H' (⟨_, _, sl, sr, Al, Ar, cl, cr, i1, i2, i3, i4, rfl, rfl⟩ | ⟨_, ⟨w, hw, hw'⟩, _, _⟩ | ⟨hMn, _, _⟩)
  rotate_left
  · exact absurd (hpN w hw) hw'
  · exact absurd hpM hMn
  obtain ⟨hC, hlen⟩ := of_cover hg hpM hpN i1 i2 i3 i4
  refine ⟨rfl, ?_⟩
  refine JL_know (own_is 0 rfl) fun ⟨_, hcr, hAr, hr1⟩ => ?_
  obtain ⟨gr, hAr⟩ := own_at hAr hr1
  refine JL_know (own_is 1 rfl) fun ⟨_, hcl, hAl, hl1⟩ => ?_
  obtain ⟨gl, hAl⟩ := own_at hAl hl1
  refine JL_run [] rfl ?_
  refine JL_alloc rfl rfl rfl (fun _ => rfl) fun p11 => ?_
  refine JL_store 0 rfl rfl rfl rfl rfl [] rfl ?_
  refine JL_all [] rfl ?_
  (repeat' (first | refine J_seq ?_ | refine J_skip ?_ | refine J_yes rfl ?_ | refine J_no rfl ?_))
  refine J_region ?_
  refine JL_run [] rfl ?_
  refine JL_set 39 (v' := .bool false) rfl (congrArg Value.bool (cdec_no (by decide))) ?_
  refine JL_val [2] (v := grV g A1 c1) (OpV_blk 4 rfl rfl rfl rfl) rfl ?_
  refine JL_val [2] (v := setV sl sr Al Ar cl cr) (OpV_blk 0 rfl rfl rfl rfl) rfl ?_
  refine JL_callR [2] (covers_fn g hg A1 c1 ge 0 hA1' sl (by omega) Al cl gl 0 (ints_at hAl) sr (by omega) Ar cr gr 0 (ints_at hAr)) rfl rfl rfl rfl (by kernel_rfl) ⟨⟨5, _, by simp, rfl, shows_ownS hA1, seen_ownS hA1⟩, ⟨2, _, by simp, rfl, shows_ownS hAl, seen_ownS hAl⟩, ⟨1, _, by simp, rfl, shows_ownS hAr, seen_ownS hAr⟩, trivial⟩ (fun _ => rfl) ?_
  rintro v H' ⟨rfl, rfl⟩
  refine ⟨rfl, ?_⟩
  refine JL_run [2] rfl ?_
  refine JL_set 44 (v' := .bool false) rfl (congrArg Value.bool (by rw [cdec_yes hC]; rfl)) ?_
  refine JL_nil ?_
  refine J_no rfl (J_skip ?_)
  (repeat' (first | refine J_seq ?_ | refine J_skip ?_ | refine J_yes rfl ?_ | refine J_no rfl ?_))
  refine J_region ?_
  refine JL_all [] rfl ?_
  (repeat' (first | refine J_seq ?_ | refine J_skip ?_ | refine J_yes rfl ?_ | refine J_no rfl ?_))
  refine J_region ?_
  refine JL_all [] rfl ?_
  refine J_fit (K := [blk p11 76 (setC sl sr Al Ar cl cr), .own (.slice Ar sr.length cr) 3 1 sr.length (ints sr), .own (.slice Al sl.length cl) 3 1 sl.length (ints sl), .own (.slice Ap pl.length cp) 3 1 pl.length (ints pl), blk p8 64 (grC g A1 c1), .own (.slice A1 g.edges.length c1) 66 2 g.edges.length (edgs g.edges)]) (Fit.picks [0, 1, 2, 3, 4, 5] (by decide) rfl) ?_
  (repeat' (first | refine J_seq ?_ | refine J_skip ?_ | refine J_yes rfl ?_ | refine J_no rfl ?_))
  refine J_region ?_
  refine JL_all [] rfl ?_
  (repeat' (first | refine J_seq ?_ | refine J_skip ?_ | refine J_yes rfl ?_ | refine J_no rfl ?_))
  refine J_block ?_
  refine J_addnil 3 1 ?_
  refine J_loop (σ := Nat × Option Addr × Nat) (fun s => [(15, .int .i64 ((s.1 + 1 : Nat) : Int)), (13, .slice s.2.1 (wholeL s.1).length s.2.2), (8, .pointer (some ⟨p8, 0, none⟩)), (9, .slice Ap pl.length cp), (11, .pointer (some ⟨p11, 0, none⟩)), (2, .int .i64 at_), (14, .slice none 0 0)])
    (fun s => [.own (.slice s.2.1 (wholeL s.1).length s.2.2) 3 1 (wholeL s.1).length (ints (wholeL s.1)), blk p11 76 (setC sl sr Al Ar cl cr), .own (.slice Ar sr.length cr) 3 1 sr.length (ints sr), .own (.slice Al sl.length cl) 3 1 sl.length (ints sl), .own (.slice Ap pl.length cp) 3 1 pl.length (ints pl), blk p8 64 (grC g A1 c1), .own (.slice A1 g.edges.length c1) 66 2 g.edges.length (edgs g.edges)])
    (fun s => s.1 ≤ nl) (fun s => nl - s.1) (0, none, 0) [0, 1, 2, 3, 4, 5, 6] ⟨rfl, rfl, rfl, rfl, rfl, rfl, rfl, trivial⟩ (by decide) rfl (Nat.zero_le _) ?_
  rintro ⟨v, Ab, cb⟩ hvn
  simp only at hvn ⊢
  have hwl := wholeL_length v
  (repeat' (first | refine J_seq ?_ | refine J_skip ?_ | refine J_yes rfl ?_ | refine J_no rfl ?_))
  refine J_region ?_
  refine JL_run [] rfl ?_
  refine JL_val [] (OpV_blk 5 rfl rfl rfl rfl) rfl ?_
  refine JL_all [] rfl ?_
  refine J_dec rfl (fun hle => J_skip ?_) (fun hgt => J_exit ?_)
  · have hle' : v < nl := by omega
    refine J_seq (J_block ?_)
    (repeat' (first | refine J_seq ?_ | refine J_skip ?_ | refine J_yes rfl ?_ | refine J_no rfl ?_))
    refine J_region ?_
    refine JL_run [] rfl ?_
    refine JL_lit rfl rfl rfl rfl rfl rfl rfl (fun _ => rfl) fun gx => ?_
    refine JL_appendS (off := 0) (m := 1) (news := ints [((v + 1 : Nat) : Int)]) 1 0 rfl rfl rfl rfl rfl rfl (by decide) rfl rfl (shows_blk gx _ _ (0, 0)) (fun _ => rfl) rfl rfl (by omega) (by omega) (fun _ _ => rfl) fun Ad cd => ?_
    refine JL_all [] rfl ?_
    (repeat' (first | refine J_seq ?_ | refine J_skip ?_ | refine J_yes rfl ?_ | refine J_no rfl ?_))
    refine J_region ?_
    refine JL_all [] rfl ?_
    refine ⟨(v + 1, Ad, cd), [1, 2, 3, 4, 5, 6, 7], ⟨?_, ?_, rfl, rfl, rfl, rfl, rfl, trivial⟩, by decide, ?_, by simp only; omega, by simp only; omega⟩
    · show some (Value.int .i64 (IntKind.i64.wrap (((v + 1 : Nat) : Int) + 1))) = _
      rw [w64 (by omega)]; rfl
    · simp only [wholeL_succ, List.length_append, List.length_singleton]; rfl
    · simp only [wholeL_succ, List.length_append, List.length_singleton, show ints (wholeL v ++ [((v + 1 : Nat) : Int)]) = ints (wholeL v) ++ ints [((v + 1 : Nat) : Int)] by simp [ints]]; rfl
  · obtain rfl : nl = v := by omega
    obtain ⟨Aw, cw, e1, e2⟩ : ∃ Aw cw, Aw = Ab ∧ cw = cb := ⟨Ab, cb, rfl, rfl⟩
    subst e1 e2
    (repeat' (first | refine J_seq ?_ | refine J_skip ?_ | refine J_yes rfl ?_ | refine J_no rfl ?_))
    refine J_region ?_
    refine JL_all [] rfl ?_
    (repeat' (first | refine J_seq ?_ | refine J_skip ?_ | refine J_yes rfl ?_ | refine J_no rfl ?_))
    refine J_block ?_
    refine J_addnil 3 1 ?_
    refine J_loop (σ := Nat × Option Addr × Nat) (fun s => [(16, .int .i64 ((s.1 + 1 : Nat) : Int)), (14, .slice s.2.1 (wholeL s.1).length s.2.2), (8, .pointer (some ⟨p8, 0, none⟩)), (9, .slice Ap pl.length cp), (11, .pointer (some ⟨p11, 0, none⟩)), (2, .int .i64 at_), (13, .slice Aw (wholeL nl).length cw)])
      (fun s => [.own (.slice s.2.1 (wholeL s.1).length s.2.2) 3 1 (wholeL s.1).length (ints (wholeL s.1)), .own (.slice Aw (wholeL nl).length cw) 3 1 (wholeL nl).length (ints (wholeL nl)), blk p11 76 (setC sl sr Al Ar cl cr), .own (.slice Ar sr.length cr) 3 1 sr.length (ints sr), .own (.slice Al sl.length cl) 3 1 sl.length (ints sl), .own (.slice Ap pl.length cp) 3 1 pl.length (ints pl), blk p8 64 (grC g A1 c1), .own (.slice A1 g.edges.length c1) 66 2 g.edges.length (edgs g.edges)])
      (fun s => s.1 ≤ nr) (fun s => nr - s.1) (0, none, 0) [0, 1, 2, 3, 4, 5, 6, 7] ⟨rfl, rfl, rfl, rfl, rfl, rfl, rfl, trivial⟩ (by decide) rfl (Nat.zero_le _) ?_
    rintro ⟨v, Ab, cb⟩ hvn
    simp only at hvn ⊢
    have hwl := wholeL_length v
    (repeat' (first | refine J_seq ?_ | refine J_skip ?_ | refine J_yes rfl ?_ | refine J_no rfl ?_))
    refine J_region ?_
    refine JL_run [] rfl ?_
    refine JL_val [] (OpV_blk 6 rfl rfl rfl rfl) rfl ?_
    refine JL_all [] rfl ?_
    refine J_dec rfl (fun hle => J_skip ?_) (fun hgt => J_exit ?_)
    · have hle' : v < nr := by omega
      refine J_seq (J_block ?_)
      (repeat' (first | refine J_seq ?_ | refine J_skip ?_ | refine J_yes rfl ?_ | refine J_no rfl ?_))
      refine J_region ?_
      refine JL_run [] rfl ?_
      refine JL_lit rfl rfl rfl rfl rfl rfl rfl (fun _ => rfl) fun gx => ?_
      refine JL_appendS (off := 0) (m := 1) (news := ints [((v + 1 : Nat) : Int)]) 1 0 rfl rfl rfl rfl rfl rfl (by decide) rfl rfl (shows_blk gx _ _ (0, 0)) (fun _ => rfl) rfl rfl (by omega) (by omega) (fun _ _ => rfl) fun Ad cd => ?_
      refine JL_all [] rfl ?_
      (repeat' (first | refine J_seq ?_ | refine J_skip ?_ | refine J_yes rfl ?_ | refine J_no rfl ?_))
      refine J_region ?_
      refine JL_all [] rfl ?_
      refine ⟨(v + 1, Ad, cd), [1, 2, 3, 4, 5, 6, 7, 8], ⟨?_, ?_, rfl, rfl, rfl, rfl, rfl, trivial⟩, by decide, ?_, by simp only; omega, by simp only; omega⟩
      · show some (Value.int .i64 (IntKind.i64.wrap (((v + 1 : Nat) : Int) + 1))) = _
        rw [w64 (by omega)]; rfl
      · simp only [wholeL_succ, List.length_append, List.length_singleton]; rfl
      · simp only [wholeL_succ, List.length_append, List.length_singleton, show ints (wholeL v ++ [((v + 1 : Nat) : Int)]) = ints (wholeL v) ++ ints [((v + 1 : Nat) : Int)] by simp [ints]]; rfl
    · obtain rfl : nr = v := by omega
      obtain ⟨Az, cz, e1, e2⟩ : ∃ Az cz, Az = Ab ∧ cz = cb := ⟨Ab, cb, rfl, rfl⟩
      subst e1 e2
      have hwn := wholeL_length nl
      have hzn := wholeL_length nr
      have hsideL : IsSide g.left (wholeL nl) := by rw [hnl]; exact wholeL_side nl
      have hsideR : IsSide g.right (wholeL nr) := by rw [hnr]; exact wholeL_side nr
      have hinL : ∀ e ∈ g.edges, e.l ∈ wholeL nl := fun e he => by have := hg.edge e he; exact mem_wholeL.2 (by omega)
      have hinR : ∀ e ∈ g.edges, e.r ∈ wholeL nr := fun e he => by have := hg.edge e he; exact mem_wholeL.2 (by omega)
      have hn0 : ∀ m : Int, IsSide m [] := fun m => ⟨by simp, by simp⟩
      (repeat' (first | refine J_seq ?_ | refine J_skip ?_ | refine J_yes rfl ?_ | refine J_no rfl ?_))
      refine J_region ?_
      refine JL_know (own_is 0 rfl) fun ⟨_, _, hAz, hz1⟩ => ?_
      obtain ⟨gz, hAz⟩ := own_at hAz hz1
      refine JL_know (own_is 1 rfl) fun ⟨_, _, hAw, hw1⟩ => ?_
      obtain ⟨gw, hAw⟩ := own_at hAw hw1
      refine JL_val [] (v := grV g A1 c1) (OpV_blk 6 rfl rfl rfl rfl) rfl ?_
      refine JL_run [] rfl ?_
      refine JL_val [] (v := setV (wholeL nl) [] Aw none cw 0) (OpV_build rfl rfl rfl rfl rfl rfl) rfl ?_
      refine JL_callR [] (covers_fn g hg A1 c1 ge 0 hA1' (wholeL nl) (by omega) Aw cw gw 0 (ints_at hAw) [] (by decide) none 0 0 0 (fun h => absurd rfl h)) rfl rfl rfl rfl (by kernel_rfl) ⟨⟨7, _, by simp, rfl, shows_ownS hA1, seen_ownS hA1⟩, ⟨1, _, by simp, rfl, shows_ownS hAw, seen_ownS hAw⟩, ⟨0, _, by simp, rfl, shows_nil, .inl rfl⟩, trivial⟩ (fun _ => rfl) ?_
      rintro v H' ⟨rfl, rfl⟩
      refine ⟨rfl, ?_⟩
      refine JL_run [] rfl ?_
      refine JL_set 70 (v' := .bool false) rfl (congrArg Value.bool (by rw [cdec_yes ⟨hsideL, hn0 _, fun e he => .inl (hinL e he)⟩]; rfl)) ?_
      refine JL_val [5] (v := grV g A1 c1) (OpV_blk 6 rfl rfl rfl rfl) rfl ?_
      refine JL_run [5] rfl ?_
      refine JL_val [5] (v := setV [] (wholeL nr) none Az 0 cz) (OpV_build rfl rfl rfl rfl rfl rfl) rfl ?_
      refine JL_callR [5] (covers_fn g hg A1 c1 ge 0 hA1' [] (by decide) none 0 0 0 (fun h => absurd rfl h) (wholeL nr) (by omega) Az cz gz 0 (ints_at hAz)) rfl rfl rfl rfl (by kernel_rfl) ⟨⟨7, _, by simp, rfl, shows_ownS hA1, seen_ownS hA1⟩, ⟨0, _, by simp, rfl, shows_nil, .inl rfl⟩, ⟨0, _, by simp, rfl, shows_ownS hAz, seen_ownS hAz⟩, trivial⟩ (fun _ => rfl) ?_
      rintro v H' ⟨rfl, rfl⟩
      refine ⟨rfl, ?_⟩
      refine JL_run [5] rfl ?_
      refine JL_set 77 (v' := .bool false) rfl (congrArg Value.bool (by rw [cdec_yes ⟨hn0 _, hsideR, fun e he => .inr (hinR e he)⟩]; rfl)) ?_
      refine JL_val [12] (v := grV g A1 c1) (OpV_blk 6 rfl rfl rfl rfl) rfl ?_
      refine JL_run [12] rfl ?_
      refine JL_val [12] (OpV_blk 2 rfl rfl rfl rfl) rfl ?_
      refine JL_val [12] (v := setV (wholeL nl) sr Aw Ar cw cr) (OpV_build rfl rfl rfl rfl rfl rfl) rfl ?_
      refine JL_callR [12] (covers_fn g hg A1 c1 ge 0 hA1' (wholeL nl) (by omega) Aw cw gw 0 (ints_at hAw) sr (by omega) Ar cr gr 0 (ints_at hAr)) rfl rfl rfl rfl (by kernel_rfl) ⟨⟨7, _, by simp, rfl, shows_ownS hA1, seen_ownS hA1⟩, ⟨1, _, by simp, rfl, shows_ownS hAw, seen_ownS hAw⟩, ⟨3, _, by simp, rfl, shows_ownS hAr, seen_ownS hAr⟩, trivial⟩ (fun _ => rfl) ?_
      rintro v H' ⟨rfl, rfl⟩
      refine ⟨rfl, ?_⟩
      refine JL_run [12] rfl ?_
      refine JL_set 86 (v' := .bool false) rfl (congrArg Value.bool (by rw [cdec_yes ⟨hsideL, hC.right, fun e he => .inl (hinL e he)⟩]; rfl)) ?_
      refine JL_val [21] (v := grV g A1 c1) (OpV_blk 6 rfl rfl rfl rfl) rfl ?_
      refine JL_run [21] rfl ?_
      refine JL_val [21] (OpV_blk 2 rfl rfl rfl rfl) rfl ?_
      refine JL_run [21] rfl ?_
      refine JL_val [21] (v := setV sl (wholeL nr) Al Az cl cz) (OpV_build rfl rfl rfl rfl rfl rfl) rfl ?_
      refine JL_callR [21] (covers_fn g hg A1 c1 ge 0 hA1' sl (by omega) Al cl gl 0 (ints_at hAl) (wholeL nr) (by omega) Az cz gz 0 (ints_at hAz)) rfl rfl rfl rfl (by kernel_rfl) ⟨⟨7, _, by simp, rfl, shows_ownS hA1, seen_ownS hA1⟩, ⟨4, _, by simp, rfl, shows_ownS hAl, seen_ownS hAl⟩, ⟨0, _, by simp, rfl, shows_ownS hAz, seen_ownS hAz⟩, trivial⟩ (fun _ => rfl) ?_
      rintro v H' ⟨rfl, rfl⟩
      refine ⟨rfl, ?_⟩
      refine JL_run [21] rfl ?_
      refine JL_set 94 (v' := .bool false) rfl (congrArg Value.bool (by rw [cdec_yes ⟨hC.left, hsideR, fun e he => .inr (hinR e he)⟩]; rfl)) ?_
      refine JL_nil ?_
      refine J_no rfl (J_skip ?_)
      (repeat' (first | refine J_seq ?_ | refine J_skip ?_ | refine J_yes rfl ?_ | refine J_no rfl ?_))
      refine J_region ?_
      refine JL_run [] rfl ?_
      refine JL_val [] (OpV_blk 2 rfl rfl rfl rfl) rfl ?_
      refine JL_run [] rfl ?_
      refine JL_val [] (OpV_blk 2 rfl rfl rfl rfl) rfl ?_
      refine JL_all [] rfl ?_
      obtain ⟨many, hmany⟩ : ∃ n : Nat, sl.length + sr.length = n := ⟨_, rfl⟩
      refine J_set 17 (v' := .int .i64 (many : Int)) rfl (congrArg (Value.int .i64) ((w64 (by omega)).trans (by omega))) ?_
      (repeat' (first | refine J_seq ?_ | refine J_skip ?_ | refine J_yes rfl ?_ | refine J_no rfl ?_))
      refine J_region ?_
      refine JL_all [] rfl ?_
      refine J_dec rfl (fun h0 => ?_) (fun h0 => J_skip ?_)
      · (repeat' (first | refine J_seq ?_ | refine J_skip ?_ | refine J_yes rfl ?_ | refine J_no rfl ?_))
        refine J_region ?_
        refine JL_run [] rfl ?_
        refine JL_val [] (OpV_blk 6 rfl rfl rfl rfl) rfl ?_
        refine JL_all [] rfl ?_
        have hsl0 : sl = [] := List.length_eq_zero_iff.1 (by omega)
        have hsr0 : sr = [] := List.length_eq_zero_iff.1 (by omega)
        have hE : g.edges = [] := by
          cases hE : g.edges with
          | nil => rfl
          | cons e r =>
            have := hC.meet e (by rw [hE]; simp)
            rw [hsl0, hsr0] at this
            simp at this
        exact J_ret ⟨_, rfl, congrArg Value.bool (cdec_yes (by rw [hE]; rfl))⟩
      have hpos : 0 < (many : Int) := by omega
      have hpk := pickZ_in (c := at_) (n := (many : Int)) hpos
      obtain ⟨k, hk⟩ : ∃ k : Nat, pickZ at_ many = k := ⟨(pickZ at_ many).toNat, by omega⟩
      (repeat' (first | refine J_seq ?_ | refine J_skip ?_ | refine J_yes rfl ?_ | refine J_no rfl ?_))
      refine J_region ?_
      refine JL_run [] rfl ?_
      refine JL_callR [] (pick17_fn hat hpos) rfl rfl rfl rfl (by kernel_rfl) trivial (fun _ => rfl) ?_
      rintro v H' ⟨rfl, rfl⟩
      refine ⟨rfl, ?_⟩
      refine JL_all [] rfl ?_
      refine J_set 18 (v' := .int .i64 (k : Int)) rfl (congrArg (Value.int .i64) hk) ?_
      (repeat' (first | refine J_seq ?_ | refine J_skip ?_ | refine J_yes rfl ?_ | refine J_no rfl ?_))
      refine J_region ?_
      refine JL_run [] rfl ?_
      refine JL_val [] (OpV_blk 2 rfl rfl rfl rfl) rfl ?_
      refine JL_run [] rfl ?_
      refine JL_val [] (OpV_blk 2 rfl rfl rfl rfl) rfl ?_
      refine JL_val [] (OpV_build rfl rfl rfl rfl rfl rfl) rfl ?_
      refine JL_alloc rfl rfl rfl (fun _ => rfl) fun p19 => ?_
      refine JL_store 0 rfl rfl rfl rfl rfl [] rfl ?_
      refine JL_nil ?_
      (repeat' (first | refine J_seq ?_ | refine J_skip ?_ | refine J_yes rfl ?_ | refine J_no rfl ?_))
      refine J_region ?_
      refine JL_run [] rfl ?_
      refine JL_val [] (OpV_blk 3 rfl rfl rfl rfl) rfl ?_
      refine JL_all [] rfl ?_
      refine J_dec rfl (fun hlt => ?_) (fun hge => ?_)
      · have hlt' : k < sl.length := by omega
        (repeat' (first | refine J_seq ?_ | refine J_skip ?_ | refine J_yes rfl ?_ | refine J_no rfl ?_))
        refine J_walk 14 [(1, true), (2, true), (3, true), (4, true), (6, true), (7, true), (8, true), (9, true), (10, true), (0, false), (5, false), (11, false), (12, true), (13, false)] [3] (by kernel_rfl) (by decide) rfl ?_
        refine JW_run [] rfl ?_
        refine JW_still [] rfl (OpV_blk 0 rfl rfl rfl rfl) rfl ?_
        refine JW_run [] rfl ?_
        refine JW_still [] rfl (OpV_upto (i := k) rfl rfl rfl rfl rfl (by omega)) rfl ?_
        refine JW_run [] rfl ?_
        refine JW_still [] rfl (OpV_blk 0 rfl rfl rfl rfl) rfl ?_
        refine JW_run [] rfl ?_
        refine JW_set 130 (v' := .int .i64 ((k + 1 : Nat) : Int)) rfl (congrArg (Value.int .i64) (w64 (by omega))) ?_
        refine JW_still [] rfl (OpV_from (i := k + 1) rfl rfl rfl rfl rfl (by omega)) rfl ?_
        refine JW_eff rfl ?_
        refine JL_lit rfl rfl rfl rfl rfl rfl rfl (fun _ => rfl) fun gx => ?_
        refine JL_nil ⟨⟨[4], by decide, rfl⟩, ?_⟩
        refine JW_fit (fun w h => h.blkOwn (sz := 1) (n := 0) rfl (by decide)) ?_
        refine JW_eff rfl ?_
        refine JL_appendS (n := 0) (m := k) (off := 0) (news := (ints sl).take k) 0 6 rfl rfl rfl rfl rfl rfl (by decide) rfl rfl (shows_take (shows_ownS hAl) k) (fun hne => hAl fun h0 => hne (by rw [h0, List.take_nil])) (by rw [List.length_take, ints_length]; omega) (ints_one_take _ _) (by omega) (by omega) (fun _ _ => rfl) fun Ax cx => ?_
        refine JL_nil ⟨⟨[4], by decide, rfl⟩, ?_⟩
        refine JW_eff rfl ?_
        refine JL_appendS (n := 0 + k) (m := sl.length - (k + 1)) (off := 0 + (k + 1)) (news := (ints sl).drop (k + 1)) 0 6 rfl rfl rfl rfl rfl rfl (by decide) rfl rfl (shows_drop (shows_ownS hAl) (k + 1)) (fun hne => ?_) (by rw [List.length_drop, ints_length]; omega) (ints_one_drop _ _) (by omega) (by omega) (fun _ _ => rfl) fun Ay cy => ?_
        · have hlt2 : k + 1 < sl.length := by
            refine Classical.byContradiction fun h0 => hne ?_
            rw [List.drop_eq_nil_iff, ints_length]; omega
          have := cutA_at (A := Al) (c := cl) (l := k + 1) (n := sl.length) (sz := 1) (b := gl) (o := 0) (fun _ => hAl fun h0 => by
            have h5 : (ints sl).length = 0 := by rw [h0]; rfl
            rw [ints_length] at h5; omega) (by omega) hlt2
          rw [Nat.mul_one] at this
          exact this
        refine JL_nil ⟨⟨[4], by decide, rfl⟩, ?_⟩
        refine JW_run [] rfl ?_
        refine JW_eff rfl ?_
        refine JL_store 1 rfl rfl rfl rfl rfl [] rfl ?_
        refine JL_nil ⟨⟨[4], by decide, rfl⟩, ?_⟩
        refine JW_nil ?_
        refine JL_nil ?_
        obtain ⟨s', hs'⟩ : ∃ s', s' = sl.eraseIdx k := ⟨_, rfl⟩
        have hs'l : s'.length + 1 = sl.length := by rw [hs', List.length_eraseIdx, if_pos (by omega)]; omega
        have hrow : [] ++ (ints sl).take k ++ (ints sl).drop (k + 1) = ints s' := by
          rw [hs', List.eraseIdx_eq_take_drop_succ, List.nil_append]
          unfold ints
          rw [List.map_append, List.map_take, List.map_drop]
        have hlen' : 0 + k + (sl.length - (k + 1)) = s'.length := by omega
        rw [hrow, hlen']
        refine J_know (own_is 0 rfl) fun ⟨_, _, hAy, hy1⟩ => ?_
        obtain ⟨gy, hAy⟩ := own_at hAy hy1
        have hno : ¬ IsCover g s' sr := fun h => by have := cover_most hpM h; omega
        have hz : proveZ g pl s' sr = 1 := by unfold proveZ; rw [cdec_no (fun h => hno h.2)]; rfl
        (repeat' (first | refine J_seq ?_ | refine J_skip ?_ | refine J_yes rfl ?_ | refine J_no rfl ?_))
        refine J_region ?_
        refine JL_val [] (v := grV g A1 c1) (OpV_blk 8 rfl rfl rfl rfl) rfl ?_
        refine JL_val [] (v := setV s' sr Ay Ar cy cr) (OpV_blk 1 rfl rfl rfl rfl) rfl ?_
        refine JL_callR [] (covers_fn g hg A1 c1 ge 0 hA1' s' (by omega) Ay cy gy 0 (ints_at hAy) sr (by omega) Ar cr gr 0 (ints_at hAr)) rfl rfl rfl rfl (by kernel_rfl) ⟨⟨9, _, by simp, rfl, shows_ownS hA1, seen_ownS hA1⟩, ⟨0, _, by simp, rfl, shows_ownS hAy, seen_ownS hAy⟩, ⟨5, _, by simp, rfl, shows_ownS hAr, seen_ownS hAr⟩, trivial⟩ (fun _ => rfl) ?_
        rintro v H' ⟨rfl, rfl⟩
        refine ⟨rfl, ?_⟩
        refine JL_run [] rfl ?_
        refine JL_set 156 (v' := .bool true) rfl (congrArg Value.bool (by rw [cdec_no hno]; rfl)) ?_
        refine JL_val [4] (v := grV g A1 c1) (OpV_blk 8 rfl rfl rfl rfl) rfl ?_
        refine JL_run [4] rfl ?_
        refine JL_val [4] (v := setV s' sr Ay Ar cy cr) (OpV_blk 1 rfl rfl rfl rfl) rfl ?_
        refine JL_callR [4] (cprove_fn g hg A1 c1 ge 0 hA1' pl (by omega) hpin Ap cp gp 0 (ints_at hAp) s' (by omega) Ay cy gy 0 (ints_at hAy) sr (by omega) Ar cr gr 0 (ints_at hAr)) rfl rfl rfl rfl (by kernel_rfl) ⟨⟨9, _, by simp, rfl, shows_ownS hA1, seen_ownS hA1⟩, ⟨7, _, by simp, rfl, shows_ownS hAp, seen_ownS hAp⟩, ⟨0, _, by simp, rfl, shows_ownS hAy, seen_ownS hAy⟩, ⟨5, _, by simp, rfl, shows_ownS hAr, seen_ownS hAr⟩, trivial⟩ (fun _ => rfl) ?_
        rintro v H' ⟨rfl, rfl⟩
        refine ⟨rfl, ?_⟩
        refine JL_all [4] rfl ?_
        exact J_ret ⟨_, rfl, congrArg Value.bool (cdec_yes hz)⟩
      · have hge' : sl.length ≤ k := by omega
        (repeat' (first | refine J_seq ?_ | refine J_skip ?_ | refine J_yes rfl ?_ | refine J_no rfl ?_))
        refine J_region ?_
        refine JL_run [] rfl ?_
        refine JL_val [] (OpV_blk 3 rfl rfl rfl rfl) rfl ?_
        refine JL_all [] rfl ?_
        obtain ⟨k0, hk0⟩ : ∃ k0, k0 = k := ⟨_, rfl⟩
        obtain ⟨k, hkk⟩ : ∃ k, k = k0 - sl.length := ⟨_, rfl⟩
        refine J_set 18 (v' := .int .i64 (k : Int)) rfl (congrArg (Value.int .i64) ((w64 (by omega)).trans (by omega))) ?_
        have hlt' : k < sr.length := by omega
        (repeat' (first | refine J_seq ?_ | refine J_skip ?_ | refine J_yes rfl ?_ | refine J_no rfl ?_))
        refine J_walk 14 [(1, true), (2, true), (3, true), (4, true), (6, true), (7, true), (8, true), (9, true), (10, true), (0, false), (5, false), (11, false), (12, true), (13, false)] [3] (by kernel_rfl) (by decide) rfl ?_
        refine JW_run [] rfl ?_
        refine JW_still [] rfl (OpV_blk 0 rfl rfl rfl rfl) rfl ?_
        refine JW_run [] rfl ?_
        refine JW_still [] rfl (OpV_upto (i := k) rfl rfl rfl rfl rfl (by omega)) rfl ?_
        refine JW_run [] rfl ?_
        refine JW_still [] rfl (OpV_blk 0 rfl rfl rfl rfl) rfl ?_
        refine JW_run [] rfl ?_
        refine JW_set 148 (v' := .int .i64 ((k + 1 : Nat) : Int)) rfl (congrArg (Value.int .i64) (w64 (by omega))) ?_
        refine JW_still [] rfl (OpV_from (i := k + 1) rfl rfl rfl rfl rfl (by omega)) rfl ?_
        refine JW_eff rfl ?_
        refine JL_lit rfl rfl rfl rfl rfl rfl rfl (fun _ => rfl) fun gx => ?_
        refine JL_nil ⟨⟨[4], by decide, rfl⟩, ?_⟩
        refine JW_fit (fun w h => h.blkOwn (sz := 1) (n := 0) rfl (by decide)) ?_
        refine JW_eff rfl ?_
        refine JL_appendS (n := 0) (m := k) (off := 0) (news := (ints sr).take k) 0 5 rfl rfl rfl rfl rfl rfl (by decide) rfl rfl (shows_take (shows_ownS hAr) k) (fun hne => hAr fun h0 => hne (by rw [h0, List.take_nil])) (by rw [List.length_take, ints_length]; omega) (ints_one_take _ _) (by omega) (by omega) (fun _ _ => rfl) fun Ax cx => ?_
        refine JL_nil ⟨⟨[4], by decide, rfl⟩, ?_⟩
        refine JW_eff rfl ?_
        refine JL_appendS (n := 0 + k) (m := sr.length - (k + 1)) (off := 0 + (k + 1)) (news := (ints sr).drop (k + 1)) 0 5 rfl rfl rfl rfl rfl rfl (by decide) rfl rfl (shows_drop (shows_ownS hAr) (k + 1)) (fun hne => ?_) (by rw [List.length_drop, ints_length]; omega) (ints_one_drop _ _) (by omega) (by omega) (fun _ _ => rfl) fun Ay cy => ?_
        · have hlt2 : k + 1 < sr.length := by
            refine Classical.byContradiction fun h0 => hne ?_
            rw [List.drop_eq_nil_iff, ints_length]; omega
          have := cutA_at (A := Ar) (c := cr) (l := k + 1) (n := sr.length) (sz := 1) (b := gr) (o := 0) (fun _ => hAr fun h0 => by
            have h5 : (ints sr).length = 0 := by rw [h0]; rfl
            rw [ints_length] at h5; omega) (by omega) hlt2
          rw [Nat.mul_one] at this
          exact this
        refine JL_nil ⟨⟨[4], by decide, rfl⟩, ?_⟩
        refine JW_run [] rfl ?_
        refine JW_eff rfl ?_
        refine JL_store 1 rfl rfl rfl rfl rfl [] rfl ?_
        refine JL_nil ⟨⟨[4], by decide, rfl⟩, ?_⟩
        refine JW_nil ?_
        refine JL_nil ?_
        obtain ⟨s', hs'⟩ : ∃ s', s' = sr.eraseIdx k := ⟨_, rfl⟩
        have hs'l : s'.length + 1 = sr.length := by rw [hs', List.length_eraseIdx, if_pos (by omega)]; omega
        have hrow : [] ++ (ints sr).take k ++ (ints sr).drop (k + 1) = ints s' := by
          rw [hs', List.eraseIdx_eq_take_drop_succ, List.nil_append]
          unfold ints
          rw [List.map_append, List.map_take, List.map_drop]
        have hlen' : 0 + k + (sr.length - (k + 1)) = s'.length := by omega
        rw [hrow, hlen']
        refine J_know (own_is 0 rfl) fun ⟨_, _, hAy, hy1⟩ => ?_
        obtain ⟨gy, hAy⟩ := own_at hAy hy1
        have hno : ¬ IsCover g sl s' := fun h => by have := cover_most hpM h; omega
        have hz : proveZ g pl sl s' = 1 := by unfold proveZ; rw [cdec_no (fun h => hno h.2)]; rfl
        (repeat' (first | refine J_seq ?_ | refine J_skip ?_ | refine J_yes rfl ?_ | refine J_no rfl ?_))
        refine J_region ?_
        refine JL_val [] (v := grV g A1 c1) (OpV_blk 8 rfl rfl rfl rfl) rfl ?_
        refine JL_val [] (v := setV sl s' Al Ay cl cy) (OpV_blk 1 rfl rfl rfl rfl) rfl ?_
        refine JL_callR [] (covers_fn g hg A1 c1 ge 0 hA1' sl (by omega) Al cl gl 0 (ints_at hAl) s' (by omega) Ay cy gy 0 (ints_at hAy)) rfl rfl rfl rfl (by kernel_rfl) ⟨⟨9, _, by simp, rfl, shows_ownS hA1, seen_ownS hA1⟩, ⟨6, _, by simp, rfl, shows_ownS hAl, seen_ownS hAl⟩, ⟨0, _, by simp, rfl, shows_ownS hAy, seen_ownS hAy⟩, trivial⟩ (fun _ => rfl) ?_
        rintro v H' ⟨rfl, rfl⟩
        refine ⟨rfl, ?_⟩
        refine JL_run [] rfl ?_
        refine JL_set 156 (v' := .bool true) rfl (congrArg Value.bool (by rw [cdec_no hno]; rfl)) ?_
        refine JL_val [4] (v := grV g A1 c1) (OpV_blk 8 rfl rfl rfl rfl) rfl ?_
        refine JL_run [4] rfl ?_
        refine JL_val [4] (v := setV sl s' Al Ay cl cy) (OpV_blk 1 rfl rfl rfl rfl) rfl ?_
        refine JL_callR [4] (cprove_fn g hg A1 c1 ge 0 hA1' pl (by omega) hpin Ap cp gp 0 (ints_at hAp) sl (by omega) Al cl gl 0 (ints_at hAl) s' (by omega) Ay cy gy 0 (ints_at hAy)) rfl rfl rfl rfl (by kernel_rfl) ⟨⟨9, _, by simp, rfl, shows_ownS hA1, seen_ownS hA1⟩, ⟨7, _, by simp, rfl, shows_ownS hAp, seen_ownS hAp⟩, ⟨6, _, by simp, rfl, shows_ownS hAl, seen_ownS hAl⟩, ⟨0, _, by simp, rfl, shows_ownS hAy, seen_ownS hAy⟩, trivial⟩ (fun _ => rfl) ?_
        rintro v H' ⟨rfl, rfl⟩
        refine ⟨rfl, ?_⟩
        refine JL_all [4] rfl ?_
        exact J_ret ⟨_, rfl, congrArg Value.bool (cdec_yes hz)⟩
end Go.Proofs.Ytbhfbpeldcnpfaa
