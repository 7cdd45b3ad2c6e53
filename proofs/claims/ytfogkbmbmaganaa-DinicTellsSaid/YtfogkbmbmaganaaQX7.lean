/- The engine and the words that all chapters share: several texts in one. -/
import Derived.Test.YtfogkbmbmaganaaChainP
import Derived.Test.YtfogkbmbmaganaaUniP
import Derived.Test.YtfogkbmbmaganaaQX10
import Derived.Test.YtfogkbmbmaganaaQX16
import Derived.Test.YtfogkbmbmaganaaDinT
import Derived.Test.YtfogkbmbmaganaaQB

/- Chapter 12's example, in plain terms; phases find but one thing. -/
set_option linter.unusedVariables false
set_option linter.unusedSimpArgs false
namespace Go.Proofs.Ytfogkbmbmaganaa
open Go.RowKit
theorem Dn.uniq {N : Net} (hR : N.Right) {least : Int} (hle : 1 ≤ least) {f f1 : List Int} {p1 k1 : Nat} (h : Dn N least f p1 k1 f1) : ∀ {f2 : List Int} {p2 k2 : Nat}, Dn N least f p2 k2 f2 → f1 = f2 ∧ p1 = p2 ∧ k1 = k2 := by
  induction h with
  | stop h1 h2 =>
    intro f2 p2 k2 h
    cases h with
    | stop _ _ => exact ⟨rfl, rfl, rfl⟩
    | step j1 j2 _ _ => rw [lev_eq j1 h1] at j2; omega
  | step h1 h2 h3 _ ih =>
    intro f2 p2 k2 h
    cases h with
    | stop j1 j2 => rw [lev_eq j1 h1] at j2; omega
    | step j1 j2 j3 j4 =>
      obtain ⟨rfl, rfl⟩ := h3.uniq hR j3
      obtain ⟨e1, e2, e3⟩ := ih j4
      exact ⟨e1, by omega, by omega⟩
theorem chain_deep {cs : List Int} {x : Int} (hR : (chainN cs).Right) (hle : ∀ c ∈ cs, x ≤ c) {lv : List Int} (h1 : IsLev (chainN cs) (roomL ((chainN cs).arcs.zip (List.replicate cs.length 0))) x lv) : 0 ≤ lvZ lv (chainN cs).snk.toNat := by
  have hal : (chainN cs).arcs.length = cs.length := chainL_length cs 1
  have hlv : ∀ i, i ≤ cs.length → 0 ≤ lvZ lv (i + 1) := by
    intro i
    induction i with
    | zero => intro _; have := h1.src; rw [show (chainN cs).src.toNat = 0 + 1 from rfl] at this; omega
    | succ i ih =>
      intro hi
      have hi' : i < cs.length := by omega
      obtain ⟨e1, e2⟩ := chain_ends hi'
      have hfi : (List.replicate cs.length (0 : Int))[i]? = some 0 := by rw [List.getElem?_replicate, if_pos hi']
      obtain ⟨g1, _⟩ := roomL_get (zip_some (chain_arc (List.getElem?_eq_getElem hi')) hfi)
      have h4 := hle _ (List.getElem_mem hi')
      have := h1.step (2 * i) (by rw [hal]; omega) (by rw [List.getD_eq_getElem?_getD, g1]; simp; exact h4) (by rw [e1]; exact ih (by omega))
      rw [e2] at this
      exact this.1
  have := hlv cs.length (Nat.le_refl _)
  rwa [show (chainN cs).snk.toNat = cs.length + 1 from by show (((cs.length + 1 : Nat) : Int)).toNat = _; omega]
theorem ex12 {p k : Nat} {f : List Int} (h : Dn (chainN [5, 3]) 1 [0, 0] p k f) : f = [3, 3] ∧ p = 1 ∧ k = 1 := by
  have hR : (chainN [5, 3]).Right := chain_right (by decide) (by decide) (by decide)
  have hz : IsFlow (chainN [5, 3]) [0, 0] := zeroFlow _ hR
  cases h with
  | stop h1 h2 =>
    have := chain_deep (cs := [5, 3]) hR (by decide) h1
    omega
  | step h1 h2 h3 h4 =>
    obtain ⟨e1, e2⟩ := chain_one (cs := [5, 3]) (mo := 3) hR (by decide) (by decide) (by decide) (by decide) h3
    have hf1 := (h3.gain hR (by decide) hz).1
    cases h4 with
    | stop _ _ =>
      have hl : f.length = 2 := hf1.len
      have a0 := chain_flow hf1 0 (by decide)
      have a1 := chain_flow hf1 1 (by decide)
      rw [e2] at a0 a1
      match f, hl with
      | [u, v], _ =>
        have b0 : u = 3 := a0
        have b1 : v = 3 := a1
        rw [b0, b1]
        exact ⟨rfl, rfl, by omega⟩
    | step j1 j2 j3 _ =>
      have := chain_none (cs := [5, 3]) (mo := 3) hR (by decide) hf1 (by decide) j3 (by omega)
      have h6 := (j3.keeps hR (by decide) hf1 j1).2.2 j2
      exact absurd (List.length_eq_zero_iff.1 this.1) h6
end Go.Proofs.Ytfogkbmbmaganaa


/- What comes of phases, as one word: of any network, by either engine or none. -/
set_option linter.unusedVariables false
set_option linter.unusedSimpArgs false
namespace Go.Proofs.Ytfogkbmbmaganaa
open Go.RowKit
def Out (N : Net) (f : List Int) (least sg e : Int) (p k : Nat) (f' : List Int) : Prop :=
  (errZ N f least = 0 ∧ (sg = 112 ∨ sg = 116) ∧ e = 0 ∧ Dn N least f p k f') ∨
  (errZ N f least = 0 ∧ ¬ (sg = 112 ∨ sg = 116) ∧ e = 1 ∧ p = 0 ∧ k = 0 ∧ f' = []) ∨
  (errZ N f least ≠ 0 ∧ e = errZ N f least ∧ p = 0 ∧ k = 0 ∧ f' = [])
theorem Out.uniq {N : Net} {f : List Int} {least sg e e2 : Int} {p k p2 k2 : Nat} {f1 f2 : List Int} (h : Out N f least sg e p k f1) (h' : Out N f least sg e2 p2 k2 f2) : e = e2 ∧ p = p2 ∧ k = k2 ∧ f1 = f2 := by
  rcases h with ⟨h1, h2, rfl, hd⟩ | ⟨h1, h2, rfl, rfl, rfl, rfl⟩ | ⟨h1, rfl, rfl, rfl, rfl⟩ <;> rcases h' with ⟨g1, g2, rfl, gd⟩ | ⟨g1, g2, rfl, rfl, rfl, rfl⟩ | ⟨g1, rfl, rfl, rfl, rfl⟩
  · obtain ⟨hR, hW, hle⟩ := errZ_zero.1 h1
    obtain ⟨a, b, c⟩ := hd.uniq hR hle gd
    exact ⟨rfl, b, c, a⟩
  · exact absurd h2 g2
  · exact absurd h1 g1
  · exact absurd g2 h2
  · exact ⟨rfl, rfl, rfl, rfl⟩
  · exact absurd h1 g1
  · exact absurd g1 h1
  · exact absurd g1 h1
  · exact ⟨rfl, rfl, rfl, rfl⟩
theorem Out.len {N : Net} {f : List Int} {least sg e : Int} {p k : Nat} {f1 : List Int} (h : Out N f least sg e p k f1) : f1.length ≤ N.arcs.length := by
  rcases h with ⟨h1, h2, rfl, hd⟩ | ⟨h1, h2, rfl, rfl, rfl, rfl⟩ | ⟨h1, rfl, rfl, rfl, rfl⟩
  · obtain ⟨hR, hW, hle⟩ := errZ_zero.1 h1
    obtain ⟨hf, _⟩ := hd.keeps hR hle hW
    have := hf.len
    omega
  · simp
  · simp
def runU (N : Net) (f : List Int) (least sg : Int) (v : Value) (H' : Heap) : Prop :=
  ∃ (e : Int) (f' : List Int) (p k s : Nat) (A' : Option Addr) (c' : Nat), Out N f least sg e p k f' ∧ (sg = 116 ∨ s = 0) ∧ v = .tuple #[runV A' f'.length c' p k s, .int .i64 e] ∧ H' = [.own (.slice A' f'.length c') 2 1 f'.length (ints f')]
def rrunU (N : Net) (f : List Int) (least sg : Int) (v : Value) (H' : Heap) : Prop :=
  ∃ (e : Int) (f' : List Int) (p k : Nat) (A' : Option Addr) (c' : Nat), Out N f least sg e p k f' ∧ v = .tuple #[rrunV A' f'.length c' p k, .int .i64 e] ∧ H' = [.own (.slice A' f'.length c') 2 1 f'.length (ints f')]
theorem Fn.addnil {g : FuncId} {args : List Value} {H : Heap} {R R' : Value → Heap → Prop} (e sz : Nat) (h : Fn g args [] H R) (hr : ∀ v H', R v H' → R' v H' ∨ R' v (.own (.slice none 0 0) e sz 0 [] :: H')) : Fn g args [] H R' := fun w hw =>
  (h w hw).mono fun _ _ ⟨v, H', h1, h2, h3⟩ => (hr v H' h3).elim (fun h => ⟨v, H', h1, h2, h⟩) (fun h => ⟨v, _, h1, h2.addnil e sz, h⟩)
theorem fromX_U {N : Net} {f : List Int} {least sg : Int} {v : Value} {H' : Heap} (h : fromX N f least sg v H') : runU N f least sg v H' ∨ runU N f least sg v (.own (.slice none 0 0) 2 1 0 [] :: H') := by
  rcases h with ⟨he, hs, f', p, k, s, A', c', hd, h0, rfl, rfl⟩ | ⟨he, h1, h2, rfl, rfl⟩ | ⟨he, rfl, rfl⟩
  · exact .inl ⟨0, f', p, k, s, A', c', .inl ⟨he, hs, rfl, hd⟩, by omega, rfl, rfl⟩
  · exact .inr ⟨1, [], 0, 0, 0, none, 0, .inr (.inl ⟨he, by omega, rfl, rfl, rfl, rfl⟩), .inr rfl, rfl, rfl⟩
  · exact .inr ⟨_, [], 0, 0, 0, none, 0, .inr (.inr ⟨he, rfl, rfl, rfl, rfl⟩), .inr rfl, rfl, rfl⟩
theorem rfromR_U {N : Net} {f : List Int} {least sg : Int} {v : Value} {H' : Heap} (h : rfromR N f least sg v H') : rrunU N f least sg v H' ∨ rrunU N f least sg v (.own (.slice none 0 0) 2 1 0 [] :: H') := by
  rcases h with ⟨he, hs, f', p, k, A', c', hd, rfl, rfl⟩ | ⟨he, h1, h2, rfl, rfl⟩ | ⟨he, rfl, rfl⟩
  · exact .inl ⟨0, f', p, k, A', c', .inl ⟨he, hs, rfl, hd⟩, rfl, rfl⟩
  · exact .inr ⟨1, [], 0, 0, none, 0, .inr (.inl ⟨he, by omega, rfl, rfl, rfl, rfl⟩), rfl, rfl⟩
  · exact .inr ⟨_, [], 0, 0, none, 0, .inr (.inr ⟨he, rfl, rfl, rfl, rfl⟩), rfl, rfl⟩
theorem fromU_fn (N : Net) (hN : N.Fits) (A : Option Addr) (c b o : Nat) (hA : N.arcs ≠ [] → A = some ⟨b, o, none⟩) (f : List Int) (F : Option Addr) (cf bf of : Nat) (hF : f ≠ [] → F = some ⟨bf, of, none⟩) (hf : ∀ x ∈ f, inB x) (hfl : f.length * 8 ≤ 140737488351232) (least : Int) (hlb : inB least) (sg : Int) :
    Fn 5 [netV N A c, .slice F f.length cf, .int .i64 least, .int .u8 sg] [] [.seg b o (arcs N.arcs), .seg bf of (ints f)] (runU N f least sg) :=
  (fromX_fn N hN A c b o hA f F cf bf of hF hf hfl least hlb sg).addnil 2 1 fun _ _ => fromX_U
theorem rfromU_fn (N : Net) (hN : N.Fits) (A : Option Addr) (c b o : Nat) (hA : N.arcs ≠ [] → A = some ⟨b, o, none⟩) (f : List Int) (F : Option Addr) (cf bf of : Nat) (hF : f ≠ [] → F = some ⟨bf, of, none⟩) (hf : ∀ x ∈ f, inB x) (hfl : f.length * 8 ≤ 140737488351232) (least sg : Int) :
    Fn 6 [netV N A c, .slice F f.length cf, .int .i64 least, .int .u8 sg] [] [.seg b o (arcs N.arcs), .seg bf of (ints f)] (rrunU N f least sg) :=
  (rfrom_fn N hN A c b o hA f F cf bf of hF hf hfl least sg).addnil 2 1 fun _ _ => rfromR_U
theorem maxU_fn (N : Net) (hN : N.Fits) (hl2 : N.arcs.length ≤ 2000) (A : Option Addr) (c b o : Nat) (hA : N.arcs ≠ [] → A = some ⟨b, o, none⟩) (sg : Int) :
    Fn 7 [netV N A c, .int .u8 sg] [] [.seg b o (arcs N.arcs)] (runU N (List.replicate N.arcs.length 0) 1 sg) :=
  (maxX_fn N hN hl2 A c b o hA sg).addnil 2 1 fun _ _ => fromX_U
theorem rmaxU_fn (N : Net) (hN : N.Fits) (hl2 : N.arcs.length ≤ 2000) (A : Option Addr) (c b o : Nat) (hA : N.arcs ≠ [] → A = some ⟨b, o, none⟩) (sg : Int) :
    Fn 8 [netV N A c, .int .u8 sg] [] [.seg b o (arcs N.arcs)] (rrunU N (List.replicate N.arcs.length 0) 1 sg) :=
  (rmax_fn N hN hl2 A c b o hA sg).addnil 2 1 fun _ _ => rfromR_U
end Go.Proofs.Ytfogkbmbmaganaa


/- Chapter 12's example, step by step. -/
set_option linter.unusedVariables false
set_option linter.unusedSimpArgs false
namespace Go.Proofs.Ytfogkbmbmaganaa
open Go.RowKit
set_option maxHeartbeats 1000000 in
theorem shown12_fn : Fn 4 [] [] [] fun v H' => v = .bool true ∧ H' = [] := by
  have hR : (chainN [5, 3]).Right := chain_right (by decide) (by decide) (by decide)
  refine Fn_of Try.func4 rfl rfl fun w0 => ?_
  (repeat' (first | refine J_seq ?_ | refine J_skip ?_ | refine J_yes rfl ?_ | refine J_no rfl ?_))
  refine J_region ?_
  refine JL_all [] rfl ?_
  (repeat' (first | refine J_seq ?_ | refine J_skip ?_ | refine J_yes rfl ?_ | refine J_no rfl ?_))
  refine J_region ?_
  refine JL_val [] (OpV_build rfl rfl rfl rfl rfl rfl) rfl ?_
  refine JL_val [] (OpV_build rfl rfl rfl rfl rfl rfl) rfl ?_
  refine JL_lit rfl rfl rfl rfl rfl rfl rfl (fun _ => rfl) fun g1 => ?_
  refine JL_val [] (OpV_build rfl rfl rfl rfl rfl rfl) rfl ?_
  refine JL_callR [] (max_fn (chainN [5, 3]) hR.fits2 hR (some ⟨g1, 0, none⟩) 2 g1 0 (fun _ => rfl)) rfl rfl rfl rfl (by kernel_rfl) ⟨⟨0, _, by simp, rfl, shows_blk _ _ _ (0, 0), .inr rfl⟩, trivial⟩ (fun _ => rfl) ?_
  rintro v H' ⟨f, p, k, A', c', hd, _, rfl, rfl⟩
  obtain ⟨rfl, rfl, rfl⟩ := ex12 hd
  refine ⟨rfl, ?_⟩
  refine JL_know (own_is 0 rfl) fun ⟨_, _, hAo, hl1⟩ => ?_
  obtain ⟨g3, hAo⟩ := own_at hAo hl1
  obtain rfl := hAo (by decide)
  refine JL_run [] rfl ?_
  refine JL_alloc rfl rfl rfl (fun _ => rfl) fun p1 => ?_
  refine JL_store 0 rfl rfl rfl rfl rfl [] rfl ?_
  refine JL_all [] rfl ?_
  (repeat' (first | refine J_seq ?_ | refine J_skip ?_ | refine J_yes rfl ?_ | refine J_no rfl ?_))
  refine J_region ?_
  refine JL_evO (gs := [999]) rfl ?_
  refine JL_evO (gs := [999]) rfl ?_
  refine JL_evO (gs := [999]) rfl ?_
  refine JL_set 13 (v' := .bool true) rfl (congrArg Value.bool (cdec_yes rfl)) ?_
  refine JL_run [2] rfl ?_
  refine JL_val [2] (OpV_blk 0 rfl rfl rfl rfl) rfl ?_
  refine JL_run [2] rfl ?_
  refine JL_set 19 (v' := .bool true) rfl (congrArg Value.bool (cdec_yes rfl)) ?_
  refine JL_run [2, 8] rfl ?_
  refine JL_val [2, 8] (OpV_blk 0 rfl rfl rfl rfl) rfl ?_
  refine JL_val [2, 8] (idx1z (m := 0) rfl rfl rfl rfl rfl (by decide)) rfl ?_
  refine JL_val [2, 8] (OpV_own 1 rfl rfl rfl rfl) rfl ?_
  refine JL_run [2, 8] rfl ?_
  refine JL_set 26 (v' := .bool true) rfl (congrArg Value.bool (cdec_yes rfl)) ?_
  refine JL_run [2, 8, 15] rfl ?_
  refine JL_val [2, 8, 15] (OpV_blk 0 rfl rfl rfl rfl) rfl ?_
  refine JL_val [2, 8, 15] (idx1z (m := 1) rfl rfl rfl rfl rfl (by decide)) rfl ?_
  refine JL_val [2, 8, 15] (OpV_own 1 rfl rfl rfl rfl) rfl ?_
  refine JL_run [2, 8, 15] rfl ?_
  refine JL_set 33 (v' := .bool true) rfl (congrArg Value.bool (cdec_yes rfl)) ?_
  refine JL_run [2, 8, 15, 22] rfl ?_
  refine JL_val [2, 8, 15, 22] (OpV_blk 0 rfl rfl rfl rfl) rfl ?_
  refine JL_run [2, 8, 15, 22] rfl ?_
  refine JL_set 38 (v' := .bool true) rfl (congrArg Value.bool (cdec_yes rfl)) ?_
  refine JL_run [2, 8, 15, 22, 27] rfl ?_
  refine JL_val [2, 8, 15, 22, 27] (OpV_blk 0 rfl rfl rfl rfl) rfl ?_
  refine JL_run [2, 8, 15, 22, 27] rfl ?_
  refine JL_set 43 (v' := .bool true) rfl (congrArg Value.bool (cdec_yes rfl)) ?_
  refine JL_run [2, 8, 15, 22, 27, 32] rfl ?_
  refine JL_val [2, 8, 15, 22, 27, 32] (OpV_blk 0 rfl rfl rfl rfl) rfl ?_
  refine JL_all [2, 8, 15, 22, 27, 32] rfl ?_
  exact J_drop [] (by decide) rfl (J_ret ⟨_, rfl, congrArg Value.bool (cdec_yes rfl), rfl⟩)
end Go.Proofs.Ytfogkbmbmaganaa

/- From a function's promise to a law's row. -/
set_option linter.unusedVariables false
set_option linter.unusedSimpArgs false
namespace Go.Proofs.Ytfogkbmbmaganaa
open Go.RowKit
def SegsIn (w : World) : Heap → Prop
  | [] => True
  | .seg b o vs :: S => (Chunk.seg b o vs).holds w ∧ SegsIn w S
  | _ => False
theorem SegsIn.spec {w : World} : ∀ {S : Heap}, SegsIn w S → ∀ c ∈ S, c.holds w ∧ c.mine = none
  | [], _, c, hc => by cases hc
  | .seg b o vs :: S, h, c, hc => by
    rcases List.mem_cons.1 hc with rfl | hc
    · exact ⟨h.1, rfl⟩
    · exact SegsIn.spec h.2 c hc
  | .obj .. :: _, h, _, _ => h.elim
  | .own .. :: _, h, _, _ => h.elim
theorem SegsIn.has {w : World} {S : Heap} (h : SegsIn w S) : Has w [] w S := by
  refine ⟨rfl, rfl, rfl, Nat.le_refl _, fun _ _ _ => rfl, fun c hc => (h.spec c hc).1, fun c hc b hb => (by rw [(h.spec c hc).2] at hb; simp at hb), ?_⟩
  rw [List.pairwise_iff_getElem]
  intro i j hi hj _
  have h1 := (h.spec _ (List.getElem_mem hi)).2
  have h2 := (h.spec _ (List.getElem_mem hj)).2
  exact ⟨fun b hb => by rw [h1] at hb; simp at hb, fun b hb => by rw [h2] at hb; simp at hb⟩
theorem Fn.row {f : FuncId} {args : List Value} {S : Heap} (h : Fn f args [] S (fun v _ => v = .bool true)) (w : World) (hS : SegsIn w S) :
    Calls Try.prog f args.toArray w fun e w' => e = .returned (.bool true) ∧ Below w.heap.size w w' := by
  refine (h w hS.has).mono ?_
  rintro e w' ⟨v, H', he, hH, hv⟩
  rw [he, hv]
  exact ⟨rfl, ⟨hH.os, hH.tape, hH.output, hH.size, fun k hk => hH.keep k hk (by simp)⟩⟩
theorem inB_of {n : Int} (h : (Lit.int .i64 n).wf = true) : inB n := by
  simp [Lit.wf, IntKind.min, IntKind.max, IntKind.signed, IntKind.bits] at h
  exact h
end Go.Proofs.Ytfogkbmbmaganaa
