/- The engine and the words that all chapters share: several texts in one. -/
import Derived.Test.YtfogkbmbmaganaaGreatQX9
import Derived.Test.YtfogkbmbmaganaaGreatBudX

/- Arguments that are networks, opened into the engine's pieces. -/
set_option linter.unusedVariables false
set_option linter.unusedSimpArgs false
namespace Go.Proofs.YtfogkbmbmaganaaGreat
open Go.RowKit Go.ChangeShapes Go.WideShapes Go.Deep Go.Joins
section
variable {H : Type} {enc : TypeId × Value → H} {P : Program} {w : World} {base : Nat} {spare : Nat → Bool} {held : Bool}
theorem opn_net {r : Reach} {b0 : Nat} {t e : TypeId} {f0 f1 f2 f3 : Field} {es : Array Field} {v : Value} {d : DataW H} {p : List MemPlace} (hs : P.underlying t = some (.struct #[f0, f1, f2, f3])) (hi : P.underlying f0.type = some (.int .i64)) (hsl : P.underlying f3.type = some (.slice e)) (he : P.underlying e = some (.struct es))
    (hone : oneCellFields P #[f0, f1, f2, f3] = true) (hC : P.cellsOf t = 4) (hsame : (Nat.beq f1.type f0.type && Nat.beq f2.type f0.type) = true) (hB : recB P e es = true) (hok : Value.okWide P w r b0 t v)
    (h : DataW.Trod enc P w base spare held t v d p) (hz : ∀ n ∈ d.weights P t, n ≤ reachBytes) :
    ∃ (x y z : Int) (A : Option Addr) (c b o : Nat) (l : List Arc), v = .agg #[.int .i64 x, .int .i64 y, .int .i64 z, .slice A l.length c] ∧ inB x ∧ inB y ∧ inB z ∧ (l ≠ [] → A = some ⟨b, o, none⟩) ∧ (Chunk.seg b o (arcs l)).holds w ∧ (∀ a ∈ l, inB a.fr ∧ inB a.to ∧ inB a.cap) ∧ l.length * 24 ≤ 140737488351232 := by
  rw [Bool.and_eq_true] at hsame
  have e1 : f1.type = f0.type := Nat.eq_of_beq_eq_true hsame.1
  have e2 : f2.type = f0.type := Nat.eq_of_beq_eq_true hsame.2
  obtain ⟨v0, v1, v2, v3, y0, y1, y2, y3, n, rfl, rfl, rfl, h0, h1, h2, h3⟩ := open_agg4 hs hone hC hok h
  rw [e1] at h1
  rw [e2] at h2
  obtain ⟨x, hx, _, wx⟩ := DataW.trod_int hi h0
  obtain ⟨y, hy, _, wy⟩ := DataW.trod_int hi h1
  obtain ⟨z, hzz, _, wz⟩ := DataW.trod_int hi h2
  obtain ⟨A, c, b, o, l, hv, hA, hS, hl, hlen⟩ := core_recs hsl he hB h3 (fun n hn => hz n (by
    simp only [DataW.weights, hs]
    exact DataW.weights_mem_each (j := 3) rfl rfl n hn))
  obtain rfl := (List.cons.inj hx).1
  obtain rfl := (List.cons.inj hy).1
  obtain rfl := (List.cons.inj hzz).1
  obtain rfl := (List.cons.inj hv).1
  exact ⟨x, y, z, A, c, b, o, l, rfl, inB_of wx, inB_of wy, inB_of wz, hA, hS, hl, hlen⟩
end
end Go.Proofs.YtfogkbmbmaganaaGreat


/- BudgetTells: the bound, what came of a run but for its steps, and the share of any count, or what is wrong, are as the chapter says: of any network, any count. No condition. -/
set_option linter.unusedVariables false
set_option linter.unusedSimpArgs false
namespace Go.Proofs.YtfogkbmbmaganaaGreat
open Go.RowKit
set_option maxHeartbeats 4000000 in
theorem budgetTells_fn (nd : Int) (hnd : inB nd) (sr : Int) (hsr : inB sr) (sk : Int) (hsk : inB sk) (A : Option Addr) (c b o : Nat) (l : List Arc) (hA : l ≠ [] → A = some ⟨b, o, none⟩) (hl : ∀ x ∈ l, inB x.fr ∧ inB x.to ∧ inB x.cap) (hs : l.length * 24 ≤ 140737488351232)
    (cv : Int) (hcv : inB cv) (cp : Int) (hcp : inB cp) (ck : Int) (hck : inB ck) (cs : Int) (hcs : inB cs) (cb : Int) (hcb : inB cb) :
    Fn 3 [.agg #[.int .i64 nd, .int .i64 sr, .int .i64 sk, .slice A l.length c], .agg #[.int .i64 cv, .int .i64 cp, .int .i64 ck, .int .i64 cs, .int .i64 cb]] [] [.seg b o (arcs l)] fun v _ => v = .bool true := by
  obtain ⟨N, hN⟩ : ∃ N : Net, N = ⟨nd, sr, sk, l⟩ := ⟨_, rfl⟩
  have hFt : N.Fits := by rw [hN]; exact ⟨hnd, hsr, hsk, hs, hl⟩
  have hA' : N.arcs ≠ [] → A = some ⟨b, o, none⟩ := by rw [hN]; exact hA
  have key : Fn 3 [netV N A c, countV cv cp ck cs cb] [] [.seg b o (arcs N.arcs)] fun v _ => v = .bool true := by
    clear hN hnd hsr hsk hs hl hA
    have hlen := hFt.len
    refine Fn_of Tryz.func3 rfl rfl fun w0 => ?_
    (repeat' (first | refine J_seq ?_ | refine J_skip ?_ | refine J_yes rfl ?_ | refine J_no rfl ?_))
    refine J_region ?_
    refine JL_box (cs := netC N A c) rfl rfl rfl (fun _ => rfl) fun p => ?_
    refine JL_box (cs := [.int .i64 cv, .int .i64 cp, .int .i64 ck, .int .i64 cs, .int .i64 cb]) rfl rfl rfl (fun _ => rfl) fun p3 => ?_
    refine JL_all [] rfl ?_
    (repeat' (first | refine J_seq ?_ | refine J_skip ?_ | refine J_yes rfl ?_ | refine J_no rfl ?_))
    refine J_region ?_
    refine JL_callR [] (shown18_fn) rfl rfl rfl rfl (by kernel_rfl) trivial (fun _ => rfl) ?_
    rintro v H' ⟨rfl, rfl⟩
    refine ⟨rfl, ?_⟩
    refine JL_all [] rfl ?_
    (repeat' (first | refine J_seq ?_ | refine J_skip ?_ | refine J_yes rfl ?_ | refine J_no rfl ?_))
    refine J_region ?_
    refine JL_evO (gs := [999]) rfl ?_
    refine JL_evO (gs := [999]) rfl ?_
    refine JL_evO (gs := [999]) rfl ?_
    refine JL_set 21 (v' := .bool false) rfl rfl ?_
    refine JL_run [2] rfl ?_
    refine JL_val [2] (v := .slice A N.arcs.length c) (OpV_blk 1 rfl rfl rfl rfl) rfl ?_
    refine JL_evO (gs := [2]) rfl ?_
    refine JL_evO (gs := [2]) rfl ?_
    refine JL_evO (gs := [2]) rfl ?_
    refine JL_evO (gs := [2]) rfl ?_
    by_cases h50 : (50 : Int) < N.arcs.length
    · refine JL_set 27 (v' := .bool true) rfl (congrArg Value.bool (cdec_yes h50)) ?_
      refine JL_all [2, 8] rfl ?_
      (repeat' (first | refine J_seq ?_ | refine J_skip ?_ | refine J_yes rfl ?_ | refine J_no rfl ?_))
      (repeat' (first | refine J_seq ?_ | refine J_skip ?_ | refine J_yes rfl ?_ | refine J_no rfl ?_))
      refine J_region ?_
      refine JL_all [] rfl ?_
      exact J_ret ⟨_, rfl, rfl⟩
    refine JL_set 27 (v' := .bool false) rfl (congrArg Value.bool (cdec_no h50)) ?_
    refine JL_run [2, 8] rfl ?_
    refine JL_val [2, 8] (v := .int .i64 N.nodes) (OpV_blk 1 rfl rfl rfl rfl) rfl ?_
    refine JL_all [2, 8] rfl ?_
    (repeat' (first | refine J_seq ?_ | refine J_skip ?_ | refine J_yes rfl ?_ | refine J_no rfl ?_))
    refine J_dec rfl (fun _ => ?_) (fun h25 => J_skip ?_)
    · (repeat' (first | refine J_seq ?_ | refine J_skip ?_ | refine J_yes rfl ?_ | refine J_no rfl ?_))
      refine J_region ?_
      refine JL_all [] rfl ?_
      exact J_ret ⟨_, rfl, rfl⟩
    (repeat' (first | refine J_seq ?_ | refine J_skip ?_ | refine J_yes rfl ?_ | refine J_no rfl ?_))
    refine J_region ?_
    refine JL_val [] (v := netV N A c) (OpV_blk 1 rfl rfl rfl rfl) rfl ?_
    refine JL_callR [] (bound_fn N hFt A c b o hA') rfl rfl rfl rfl (by kernel_rfl) ⟨⟨2, _, by simp, rfl, shows_seg _ _ _, seen_seg⟩, trivial⟩ (fun _ => rfl) ?_
    rintro v H' ⟨rfl, rfl⟩
    refine ⟨rfl, ?_⟩
    obtain ⟨q, hq⟩ : ∃ q : Int × Int, (if checkZ N = 0 then (boundZ N, 0) else (0, checkZ N)) = q := ⟨_, rfl⟩
    rw [hq]
    refine JL_all [] rfl ?_
    (repeat' (first | refine J_seq ?_ | refine J_skip ?_ | refine J_yes rfl ?_ | refine J_no rfl ?_))
    refine J_region ?_
    refine JL_val [] (v := netV N A c) (OpV_blk 1 rfl rfl rfl rfl) rfl ?_
    refine JL_callR [] (rbound_fn N hFt A c b o hA') rfl rfl rfl rfl (by kernel_rfl) ⟨⟨2, _, by simp, rfl, shows_seg _ _ _, seen_seg⟩, trivial⟩ (fun _ => rfl) ?_
    rintro v H' ⟨rfl, rfl⟩
    refine ⟨rfl, ?_⟩
    rw [hq]
    refine JL_all [] rfl ?_
    (repeat' (first | refine J_seq ?_ | refine J_skip ?_ | refine J_yes rfl ?_ | refine J_no rfl ?_))
    refine J_region ?_
    refine JL_val [] (v := netV N A c) (OpV_blk 1 rfl rfl rfl rfl) rfl ?_
    refine JL_callR [] (brunU_fn N hFt A c b o hA') rfl rfl rfl rfl (by kernel_rfl) ⟨⟨2, _, by simp, rfl, shows_seg _ _ _, seen_seg⟩, trivial⟩ (fun _ => rfl) ?_
    rintro v H' ⟨e1, v1, p1, k1, s1, b1, ho1, hs1, rfl, rfl⟩
    refine ⟨rfl, ?_⟩
    refine JL_run [] rfl ?_
    refine JL_alloc rfl rfl rfl (fun _ => rfl) fun q1 => ?_
    refine JL_store 0 rfl rfl rfl rfl rfl [] rfl ?_
    refine JL_all [] rfl ?_
    (repeat' (first | refine J_seq ?_ | refine J_skip ?_ | refine J_yes rfl ?_ | refine J_no rfl ?_))
    refine J_region ?_
    refine JL_val [] (v := netV N A c) (OpV_blk 2 rfl rfl rfl rfl) rfl ?_
    refine JL_callR [] (rrunB_fn N hFt A c b o hA') rfl rfl rfl rfl (by kernel_rfl) ⟨⟨3, _, by simp, rfl, shows_seg _ _ _, seen_seg⟩, trivial⟩ (fun _ => rfl) ?_
    rintro v H' ⟨e2, v2, p2, k2, b2, ho2, rfl, rfl⟩
    refine ⟨rfl, ?_⟩
    refine JL_run [] rfl ?_
    refine JL_alloc rfl rfl rfl (fun _ => rfl) fun q2 => ?_
    refine JL_store 0 rfl rfl rfl rfl rfl [] rfl ?_
    refine JL_all [] rfl ?_
    obtain ⟨rfl, rfl, rfl, rfl, rfl⟩ := ho1.uniq ho2
    (repeat' (first | refine J_seq ?_ | refine J_skip ?_ | refine J_yes rfl ?_ | refine J_no rfl ?_))
    refine J_region ?_
    refine JL_val [] (v := countV cv cp ck cs cb) (OpV_blk 2 rfl rfl rfl rfl) rfl ?_
    refine JL_callR [] (shareX_fn cv cp ck cs cb hcs) rfl rfl rfl rfl (by kernel_rfl) trivial (fun _ => rfl) ?_
    rintro v H' ⟨rfl, rfl⟩
    refine ⟨rfl, ?_⟩
    refine JL_all [] rfl ?_
    (repeat' (first | refine J_seq ?_ | refine J_skip ?_ | refine J_yes rfl ?_ | refine J_no rfl ?_))
    refine J_region ?_
    refine JL_run [] rfl ?_
    refine JL_val [] (v := .int .i64 cs) (OpV_blk 2 rfl rfl rfl rfl) rfl ?_
    refine JL_run [] rfl ?_
    refine JL_val [] (v := .int .i64 cb) (OpV_blk 2 rfl rfl rfl rfl) rfl ?_
    refine JL_callR [] (rshare_fn cs cb hcs) rfl rfl rfl rfl (by kernel_rfl) trivial (fun _ => rfl) ?_
    rintro v H' ⟨rfl, rfl⟩
    refine ⟨rfl, ?_⟩
    refine JL_all [] rfl ?_
    (repeat' (first | refine J_seq ?_ | refine J_skip ?_ | refine J_yes rfl ?_ | refine J_no rfl ?_))
    refine J_region ?_
    refine JL_run [] rfl ?_
    refine JL_set 69 (v' := .bool true) rfl (congrArg Value.bool (cdec_yes rfl)) ?_
    refine JL_run [3] rfl ?_
    refine JL_set 74 (v' := .bool true) rfl (congrArg Value.bool (cdec_yes rfl)) ?_
    refine JL_run [3, 8] rfl ?_
    refine JL_val [3, 8] (v := .int .i64 v1) (OpV_blk 1 rfl rfl rfl rfl) rfl ?_
    refine JL_run [3, 8] rfl ?_
    refine JL_val [3, 8] (v := .int .i64 v1) (OpV_blk 0 rfl rfl rfl rfl) rfl ?_
    refine JL_run [3, 8] rfl ?_
    refine JL_set 81 (v' := .bool true) rfl (congrArg Value.bool (cdec_yes rfl)) ?_
    refine JL_run [3, 8, 15] rfl ?_
    refine JL_val [3, 8, 15] (v := .int .i64 p1) (OpV_blk 1 rfl rfl rfl rfl) rfl ?_
    refine JL_run [3, 8, 15] rfl ?_
    refine JL_val [3, 8, 15] (v := .int .i64 p1) (OpV_blk 0 rfl rfl rfl rfl) rfl ?_
    refine JL_run [3, 8, 15] rfl ?_
    refine JL_set 88 (v' := .bool true) rfl (congrArg Value.bool (cdec_yes rfl)) ?_
    refine JL_run [3, 8, 15, 22] rfl ?_
    refine JL_val [3, 8, 15, 22] (v := .int .i64 k1) (OpV_blk 1 rfl rfl rfl rfl) rfl ?_
    refine JL_run [3, 8, 15, 22] rfl ?_
    refine JL_val [3, 8, 15, 22] (v := .int .i64 k1) (OpV_blk 0 rfl rfl rfl rfl) rfl ?_
    refine JL_run [3, 8, 15, 22] rfl ?_
    refine JL_set 95 (v' := .bool true) rfl (congrArg Value.bool (cdec_yes rfl)) ?_
    refine JL_run [3, 8, 15, 22, 29] rfl ?_
    refine JL_val [3, 8, 15, 22, 29] (v := .int .i64 b1) (OpV_blk 1 rfl rfl rfl rfl) rfl ?_
    refine JL_run [3, 8, 15, 22, 29] rfl ?_
    refine JL_val [3, 8, 15, 22, 29] (v := .int .i64 b1) (OpV_blk 0 rfl rfl rfl rfl) rfl ?_
    refine JL_run [3, 8, 15, 22, 29] rfl ?_
    refine JL_set 102 (v' := .bool true) rfl (congrArg Value.bool (cdec_yes rfl)) ?_
    refine JL_run [3, 8, 15, 22, 29, 36] rfl ?_
    refine JL_set 107 (v' := .bool true) rfl (congrArg Value.bool (cdec_yes rfl)) ?_
    refine JL_run [3, 8, 15, 22, 29, 36, 41] rfl ?_
    by_cases h0 : e1 = 0
    · refine JL_set 110 (v' := .bool true) rfl (congrArg Value.bool (cdec_yes h0)) ?_
      refine JL_run [3, 8, 15, 22, 29, 36, 41, 44] rfl ?_
      refine JL_run [3, 8, 15, 22, 29, 36, 41, 44, 50] rfl ?_
      refine JL_set 121 (v' := .bool true) rfl (congrArg Value.bool (cdec_yes rfl)) ?_
      refine JL_all [3, 8, 15, 22, 29, 36, 41, 44, 50, 55] rfl ?_
      exact J_ret ⟨_, rfl, congrArg Value.bool (cdec_yes rfl)⟩
    · obtain rfl := hs1.resolve_left h0
      refine JL_set 110 (v' := .bool false) rfl (congrArg Value.bool (cdec_no h0)) ?_
      refine JL_run [3, 8, 15, 22, 29, 36, 41, 44] rfl ?_
      refine JL_val [3, 8, 15, 22, 29, 36, 41, 44] (v := .int .i64 ((0 : Nat) : Int)) (OpV_blk 1 rfl rfl rfl rfl) rfl ?_
      refine JL_run [3, 8, 15, 22, 29, 36, 41, 44] rfl ?_
      refine JL_set 116 (v' := .bool true) rfl (congrArg Value.bool (cdec_yes rfl)) ?_
      refine JL_run [3, 8, 15, 22, 29, 36, 41, 44, 50] rfl ?_
      refine JL_set 121 (v' := .bool true) rfl (congrArg Value.bool (cdec_yes rfl)) ?_
      refine JL_all [3, 8, 15, 22, 29, 36, 41, 44, 50, 55] rfl ?_
      exact J_ret ⟨_, rfl, congrArg Value.bool (cdec_yes rfl)⟩
  rw [hN] at key
  exact key
end Go.Proofs.YtfogkbmbmaganaaGreat


/- Arguments that are structs of five numbers. -/
set_option linter.unusedVariables false
set_option linter.unusedSimpArgs false
namespace Go.Proofs.YtfogkbmbmaganaaGreat
open Go.RowKit Go.ChangeShapes Go.WideShapes Go.Deep Go.Joins
section
variable {H : Type} {enc : TypeId × Value → H} {P : Program} {w : World} {base : Nat} {spare : Nat → Bool} {held : Bool}
theorem opn_agg5 {r : Reach} {b0 : Nat} {t : TypeId} {f0 f1 f2 f3 f4 : Field} {v : Value} {d : DataW H} {p : List MemPlace} (hs : P.underlying t = some (.struct #[f0, f1, f2, f3, f4]))
    (e0 : P.underlying f0.type = some (.int .i64)) (e1 : P.underlying f1.type = some (.int .i64)) (e2 : P.underlying f2.type = some (.int .i64)) (e3 : P.underlying f3.type = some (.int .i64)) (e4 : P.underlying f4.type = some (.int .i64))
    (hone : oneCellFields P #[f0, f1, f2, f3, f4] = true) (hC : P.cellsOf t = 5) (hok : Value.okWide P w r b0 t v)
    (h : DataW.Trod enc P w base spare held t v d p) :
    ∃ (x0 x1 x2 x3 x4 : Int), v = .agg #[.int .i64 x0, .int .i64 x1, .int .i64 x2, .int .i64 x3, .int .i64 x4] ∧ inB x0 ∧ inB x1 ∧ inB x2 ∧ inB x3 ∧ inB x4 := by
  obtain ⟨cs, rfl, hsz⟩ := okWide_struct hs hok
  rw [hC] at hsz
  obtain ⟨fuel, hf⟩ := h
  obtain ⟨xs, n, _, _, hl, hlen, hf⟩ := DataW.trod_struct hs hf
  obtain ⟨o0, k0⟩ := hone_of hone 0 f0 rfl
  obtain ⟨o1, k1⟩ := hone_of hone 1 f1 rfl
  obtain ⟨o2, k2⟩ := hone_of hone 2 f2 rfl
  obtain ⟨o3, k3⟩ := hone_of hone 3 f3 rfl
  obtain ⟨o4, k4⟩ := hone_of hone 4 f4 rfl
  obtain ⟨l⟩ := cs
  match l, hsz, xs, hlen with
  | [c0, c1, c2, c3, c4], _, [y0, y1, y2, y3, y4], _ =>
    have h0 := hf 0 f0 rfl
    have h1 := hf 1 f1 rfl
    have h2 := hf 2 f2 rfl
    have h3 := hf 3 f3 rfl
    have h4 := hf 4 f4 rfl
    simp only [Value.cells, o0, k0, o1, k1, o2, k2, o3, k3, o4, k4] at h0 h1 h2 h3 h4
    obtain ⟨x0, q0, _, w0⟩ := DataW.trod_int e0 (h0.trans rfl)
    obtain ⟨x1, q1, _, w1⟩ := DataW.trod_int e1 (h1.trans rfl)
    obtain ⟨x2, q2, _, w2⟩ := DataW.trod_int e2 (h2.trans rfl)
    obtain ⟨x3, q3, _, w3⟩ := DataW.trod_int e3 (h3.trans rfl)
    obtain ⟨x4, q4, _, w4⟩ := DataW.trod_int e4 (h4.trans rfl)
    obtain rfl := (List.cons.inj q0).1
    obtain rfl := (List.cons.inj q1).1
    obtain rfl := (List.cons.inj q2).1
    obtain rfl := (List.cons.inj q3).1
    obtain rfl := (List.cons.inj q4).1
    exact ⟨x0, x1, x2, x3, x4, rfl, inB_of w0, inB_of w1, inB_of w2, inB_of w3, inB_of w4⟩
end
end Go.Proofs.YtfogkbmbmaganaaGreat
