
/- The halves of a number, one by one. -/
import Derived.Test.YtjbcgjahfalkaaaEngS
import Derived.Test.YtjbcgjahfalkaaaScaleP
import Derived.Test.YtjbcgjahfalkaaaQA
set_option linter.unusedVariables false
set_option linter.unusedSimpArgs false
namespace Go.Proofs.Ytjbcgjahfalkaaa
open Go.RowKit
theorem halves_fn (n : Int) : Fn 65 [.int .i64 n] [] [] fun v H' => ∃ p, v = .func (.func 82) #[] #[.pointer (some ⟨p, 0, none⟩)] ∧ H' = [blk p 2 [.int .i64 n]] := by
  refine Fn_of Try.func65 rfl rfl fun w0 => ?_
  (repeat' (first | refine J_seq ?_ | refine J_skip ?_ | refine J_yes rfl ?_ | refine J_no rfl ?_))
  refine J_region ?_
  refine JL_box rfl rfl rfl (fun _ => rfl) fun b => ?_
  refine JL_all [] rfl ?_
  (repeat' (first | refine J_seq ?_ | refine J_skip ?_ | refine J_yes rfl ?_ | refine J_no rfl ?_))
  refine J_region ?_
  refine JL_all [] rfl ?_
  exact J_ret ⟨_, rfl, b, rfl, rfl⟩
section
variable {G : Nat → World → Prop} {n : Nat} {E : Env} {k nr l : Nat} {x : Nat → List Value} {ops : List Oper} {R : Exit → Act → World → Prop}
theorem JY_yieldG {l2 : List Oper} {o : Oper} {f : Operand} {args : Array Operand} {ts : Array TypeId} {E' : Env} (gs : List Nat) (hY : ∀ k W, k < nr → G k W → YieldAt Fence.wide 0 Try.prog l (x k).toArray W fun e W' => e = .returned (.bool true) ∧ G (k + 1) W') (hk : k < nr)
    (ho : o.op = .call ⟨.value f, args, ts⟩) (hf : val E f = some (.func (.yield l) #[] #[])) (ha : vals E args.toList = some (x k)) (hb : bef ⟨n, []⟩ ops gs E o (.bool true) = some E') (h : JY G n ops l2 R E' (k + 1)) : JY G n ops (o :: l2) R E k := by
  intro a w hA hJ
  obtain ⟨hg, hp⟩ := bef_spec hb
  obtain ⟨fn, tmps, assign, body, hy, hr⟩ := hY k w hk hJ
  unfold wpListIn
  rw [if_pos (gd_wanted hA hg)]
  refine ⟨fun _ _ => trivial, ?_⟩
  have e1 : args.map a.eval = (x k).toArray := by
    rw [← hA.vals _ _ ha]
    exact Array.ext' (by simp)
  have hs : o.semAt Fence.wide.round a.eval = execOp a.eval o := Oper.semAt_none a.eval o
  have he : (execOp a.eval o).run Try.prog w = .ok (.round l fn tmps assign body) w := by
    simp [execOp, ho, resolve, invoke, Deferred.ofValue, hA.val hf, e1, hy]
  rw [hs, he, Oper.uponIn_round]
  refine ⟨fun hd => (by simp [Fence.wide] at hd), hr.mono ?_⟩
  rintro e W' ⟨rfl, hJ'⟩
  exact h _ _ (hA.putE hp) hJ'
end
def halfX (nr : Nat) (k : Nat) : List Value := [.int .i64 (halfZ nr k)]
set_option maxHeartbeats 1000000 in
theorem halves_gives (p nr : Nat) (hnr : nr ≤ 63) : GivesM 82 [.pointer (some ⟨p, 0, none⟩)] p 2 (halfZ nr 0) nr (halfX nr) := by
  intro l J w hJS hJm hY h0
  refine calls_of_wp Try.func82 rfl ?_
  have hA0 := agr_init (n := 12) (args := [.func (.yield l) #[] #[], .pointer (some ⟨p, 0, none⟩)]) rfl
  refine wp_block (wp_loop_ghost (fun m a w => ∃ k, m = nr - k ∧ k ≤ nr ∧ Agr ⟨12, []⟩ a [(1, .pointer (some ⟨p, 0, none⟩)), (0, .func (.yield l) #[] #[])] ∧ J k (halfZ nr k) w) nr ⟨0, rfl, Nat.zero_le _, hA0.ents _ ⟨rfl, rfl, trivial⟩, h0⟩ ?_)
  rintro m a w ⟨k, rfl, hk, hA, hG⟩
  obtain ⟨G, hGe⟩ : ∃ G : Nat → World → Prop, G = fun j W => J j (halfZ nr k) W := ⟨_, rfl⟩
  have hGS : ∀ j W, G j W → ∀ c ∈ [Chunk.seg p 0 [.int .i64 (halfZ nr k)]], c.holds W := by
    rintro j W hj c hc
    rw [hGe] at hj
    rw [List.mem_singleton.1 hc]
    exact fun i v hv => shows_blk p 2 _ (0, 0) W (hJS j _ W hj) i v hv
  have hGa : ∀ j W W', G j W → Has W [] W' [] → G j W' := by
    intro j W W' hj h
    rw [hGe] at hj ⊢
    have hc := hJS j _ W hj
    exact hJm j _ _ W W' hj ⟨h.os, h.tape, h.output, h.size, fun k hk _ => h.keep k hk (by simp), fun c hc' => by
      rw [List.mem_singleton.1 hc']
      exact Chunk.holds_of hc fun b hb => h.keep b (Chunk.at_lt hc hb) (by simp), fun c hc' b hb => .inr (by rw [List.mem_singleton.1 hc'] at hb; simp [Chunk.mine] at hb; simp [hb]), List.pairwise_singleton _ _⟩
  have hYG : ∀ j W, j < nr → G j W → YieldAt Fence.wide 0 Try.prog l (halfX nr j).toArray W fun e W' => e = .returned (.bool true) ∧ G (j + 1) W' := by
    intro j W hj hG
    rw [hGe] at hG ⊢
    exact hY j _ W hj hG
  have hG' : G k w := by rw [hGe]; exact hG
  suffices hWG : WG G 12 _ _ [(1, .pointer (some ⟨p, 0, none⟩)), (0, .func (.yield l) #[] #[])] k from hWG _ _ hA hG'
  clear hA hG hG'
  by_cases hlt : k < nr
  · have hpos := halfZ_pos hlt
    refine WG_seq ?_
    refine WG_seq (WG_region ?_)
    refine JY_pre (S := [.seg p 0 [.int .i64 (halfZ nr k)]]) (F := [(5, .bool true), (6, .func (.yield l) #[] #[]), (7, .int .i64 (halfZ nr k)), (1, .pointer (some ⟨p, 0, none⟩)), (0, .func (.yield l) #[] #[])]) 5 rfl hGS hGa rfl (fun w => ?_) ?_
    · show JL _ _ [_, _, _, _, _] _ _ _
      refine JL_val [] (ldseg (i := 0) 0 rfl rfl rfl rfl rfl) rfl ?_
      refine JL_run [] rfl ?_
      refine JL_set 5 (v' := .bool true) rfl (congrArg Value.bool (cdec_yes (by omega))) ?_
      refine JL_run [2] rfl ?_
      refine JL_val [2] (ldseg (i := 0) 0 rfl rfl rfl rfl rfl) rfl ?_
      exact JL_nil ⟨rfl, rfl, rfl, rfl, rfl, trivial⟩
    · refine JY_yieldG [2] hYG hlt rfl rfl rfl rfl ?_
      refine JY_pre (S := [.seg p 0 [.int .i64 (halfZ nr k)]]) (F := [(9, .bool true), (1, .pointer (some ⟨p, 0, none⟩)), (0, .func (.yield l) #[] #[])]) 1 rfl hGS hGa rfl (fun w => ?_) (JY_nil fun a w hA hG => ?_)
      · exact JL_all [] rfl ⟨rfl, rfl, rfl, trivial⟩
      · refine wp_cond_true (hA.val (x := .tmp 9) rfl) (wp_skip ?_)
        suffices hWG : WG G 12 _ _ [(9, .bool true), (1, .pointer (some ⟨p, 0, none⟩)), (0, .func (.yield l) #[] #[])] (k + 1) from hWG _ _ hA hG
        refine WG_seq fun a w hA hG => wp_block (wp_skip ?_)
        suffices hWG : WG G 12 _ _ [(9, .bool true), (1, .pointer (some ⟨p, 0, none⟩)), (0, .func (.yield l) #[] #[])] (k + 1) from hWG _ _ hA hG
        refine WG_plainM (M := [p]) (S := [blk p 2 [.int .i64 (halfZ nr k)]]) (Q := onQ fun E' H' => Ents E' [(1, .pointer (some ⟨p, 0, none⟩)), (0, .func (.yield l) #[] #[])] ∧ H' = [blk p 2 [.int .i64 (halfZ nr (k + 1))]]) (fun W hW => ?_) (fun w => ?_) ?_
        · rw [hGe] at hW
          exact has_cell (hJS _ _ W hW)
        · (repeat' (first | refine J_seq ?_ | refine J_skip ?_ | refine J_yes rfl ?_ | refine J_no rfl ?_))
          refine J_region ?_
          refine JL_run [] rfl ?_
          refine JL_val [] (v := .int .i64 (halfZ nr k)) (OpV_blk 0 rfl rfl rfl rfl) rfl ?_
          refine JL_val [] (OpV_shr (b := 1) rfl rfl rfl) rfl ?_
          refine JL_set 11 (v' := .int .i64 (halfZ nr (k + 1))) rfl (congrArg (Value.int .i64) (by
            rw [halfZ_half]
            show Int.fdiv (halfZ nr k) (2 ^ 1) = _
            rw [Int.fdiv_eq_ediv_of_nonneg _ (by decide)]; rfl)) ?_
          refine JL_store 0 rfl rfl rfl rfl rfl [] rfl ?_
          exact JL_nil ⟨⟨rfl, rfl, trivial⟩, rfl⟩
        · rintro e E2 a2 w2 hA2 ⟨w1, H', hG1, hH', hq⟩
          cases e with
          | normal =>
            obtain ⟨hq1, rfl⟩ := hq
            rw [hGe] at hG1
            exact ⟨nr - (k + 1), by omega, k + 1, rfl, hlt, hA2.ents _ hq1, hJm (k + 1) _ _ w1 w2 hG1 hH'⟩
          | _ => exact hq.elim
  · obtain rfl : k = nr := by omega
    refine WG_seq (WG_plain (Q := fun e _ _ => e = .exit 0) (S := [.seg p 0 [.int .i64 (halfZ k k)]]) rfl hGS hGa (fun w => ?_) ?_)
    · (repeat' (first | refine J_seq ?_ | refine J_skip ?_ | refine J_yes rfl ?_ | refine J_no rfl ?_))
      refine J_region ?_
      refine JL_val [] (ldseg (i := 0) 0 rfl rfl rfl rfl rfl) rfl ?_
      refine JL_run [] rfl ?_
      refine JL_set 5 (v' := .bool false) rfl (congrArg Value.bool (cdec_no (by rw [halfZ_end (Nat.le_refl _)]; decide))) ?_
      refine JL_all [2] rfl ?_
      exact J_no rfl (J_exit rfl)
    · rintro e E1 a1 w1 hA1 hG1 ⟨_, _, _, rfl⟩
      simp only [Exit.then, Exit.inBlock, if_true]
      rw [hGe] at hG1
      exact ⟨hA1.defers, _, results_run (E := []) (hA1.ents [] trivial) rfl _, ⟨_, rfl⟩, _, hG1⟩
end Go.Proofs.Ytjbcgjahfalkaaa
