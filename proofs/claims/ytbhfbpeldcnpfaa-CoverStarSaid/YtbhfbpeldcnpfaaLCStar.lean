
/- CoverStar: stars beside one another. No condition. -/
import Derived.Test.YtbhfbpeldcnpfaaCovT
import Derived.Test.YtbhfbpeldcnpfaaDrawn17
import Derived.Test.YtbhfbpeldcnpfaaShown17
import Derived.Test.YtbhfbpeldcnpfaaRwM
namespace Go.Proofs.Ytbhfbpeldcnpfaa
open Go.RowKit
theorem IsMatch.congr {g g' : Gr} (h : g.edges = g'.edges) {l : List Int} (hM : IsMatch g l) : IsMatch g' l := ⟨hM.rise, by rw [← h]; exact hM.rng, by rw [← h]; exact hM.apart⟩
theorem IsMatch.more {g g' : Gr} {es : List Edg} (h : g'.edges = g.edges ++ es) {l : List Int} (hM : IsMatch g l) : IsMatch g' l := by
  refine ⟨hM.rise, fun x hx => ?_, ?_⟩
  · have := hM.rng x hx
    rw [h, List.length_append]; omega
  · refine hM.apart.imp_of_mem ?_
    intro x y hx hy hxy a b ha hb
    have := hM.rng x hx
    have := hM.rng y hy
    rw [h, List.getElem?_append_left (by omega)] at ha hb
    exact hxy a b ha hb
def starE (side : Bool) (L k : Nat) : List Edg := (List.range k).map fun (j : Nat) => if side = true then ⟨(L : Int), ((L + j : Nat) : Int)⟩ else ⟨((L + j : Nat) : Int), (L : Int)⟩
theorem starE_succ (side : Bool) (L k : Nat) : starE side L (k + 1) = starE side L k ++ [if side = true then ⟨(L : Int), ((L + k : Nat) : Int)⟩ else ⟨((L + k : Nat) : Int), (L : Int)⟩] := by
  unfold starE
  rw [List.range_succ, List.map_append]; rfl
theorem starE_length (side : Bool) (L k : Nat) : (starE side L k).length = k := by simp [starE]
theorem starE_in {side : Bool} {L k : Nat} {e : Edg} (h : e ∈ starE side L k) : (L ≤ e.l ∧ e.l < L + k) ∧ (L ≤ e.r ∧ e.r < L + k) ∧ (if side = true then e.l = L else e.r = L) := by
  obtain ⟨j, hj, rfl⟩ := List.mem_map.1 h
  have := List.mem_range.1 hj
  cases side
  · simp; omega
  · simp; omega
structure StarI (L : Nat) (E : List Edg) (m : Nat) (cl cr M : List Int) : Prop where
  pos : 1 ≤ L
  edge : ∀ e ∈ E, (1 ≤ e.l ∧ e.l < L) ∧ (1 ≤ e.r ∧ e.r < L)
  cL : IsSide ((L : Int) - 1) cl
  cR : IsSide ((L : Int) - 1) cr
  size : cl.length + cr.length = m
  meet : ∀ e ∈ E, e.l ∈ cl ∨ e.r ∈ cr
  mat : IsMatch ⟨0, 0, E⟩ M
  msize : M.length = m
theorem IsSide.up {m n : Int} {l : List Int} (h : IsSide m l) (hmn : m ≤ n) : IsSide n l := ⟨h.rise, fun x hx => by have := h.rng x hx; omega⟩
theorem StarI.step {L : Nat} {E : List Edg} {m : Nat} {cl cr M : List Int} (h : StarI L E m cl cr M) (side : Bool) {k : Nat} (hk : 0 < k) : ∃ cl' cr' M', StarI (L + k) (E ++ starE side L k) (m + 1) cl' cr' M' := by
  have hp := h.pos
  obtain ⟨k', rfl⟩ : ∃ k', k = k' + 1 := ⟨k - 1, by omega⟩
  have hedge : ∀ e ∈ E ++ starE side L (k' + 1), (1 ≤ e.l ∧ e.l < ((L + (k' + 1) : Nat) : Int)) ∧ (1 ≤ e.r ∧ e.r < ((L + (k' + 1) : Nat) : Int)) := fun e he => by
    rcases List.mem_append.1 he with he | he
    · have := h.edge e he; omega
    · have := starE_in he; omega
  have h0 : ((⟨0, 0, E ++ starE side L (k' + 1)⟩ : Gr).edges)[((E.length : Nat) : Int).toNat]? = some ⟨(L : Int), (L : Int)⟩ := by
    rw [Int.toNat_natCast, List.getElem?_append_right (Nat.le_refl _), Nat.sub_self]
    unfold starE
    rw [List.getElem?_map, List.getElem?_range (by omega)]
    cases side <;> simp
  have hmat : IsMatch ⟨0, 0, E ++ starE side L (k' + 1)⟩ (M ++ [((E.length : Nat) : Int)]) := by
    rw [IsMatch.snoc h0]
    refine ⟨h.mat.more rfl, fun y hy => (h.mat.rng y hy).2, by omega, ?_, fun y hy a ha => ?_⟩
    · show ((E.length : Nat) : Int) < ((E ++ starE side L (k' + 1)).length : Nat)
      rw [List.length_append, starE_length]; omega
    · have hyr := h.mat.rng y hy
      have hyr' : y < ((E.length : Nat) : Int) := hyr.2
      rw [show (⟨0, 0, E ++ starE side L (k' + 1)⟩ : Gr).edges = E ++ starE side L (k' + 1) from rfl, List.getElem?_append_left (by omega)] at ha
      have := h.edge a (List.mem_of_getElem? ha)
      simp only
      omega
  have up : ∀ {c : List Int}, IsSide ((L : Int) - 1) c → IsSide (((L + (k' + 1) : Nat) : Int) - 1) c := fun h => h.up (by omega)
  have more : ∀ {c : List Int}, IsSide ((L : Int) - 1) c → IsSide (((L + (k' + 1) : Nat) : Int) - 1) (c ++ [(L : Int)]) := fun {c} h => IsSide.snoc.2 ⟨up h, fun y hy => by have := h.rng y hy; omega, by omega, by omega⟩
  have hs := h.size
  have hm := h.msize
  cases side with
  | true =>
    refine ⟨cl ++ [(L : Int)], cr, _, by omega, hedge, more h.cL, up h.cR, by rw [List.length_append, List.length_singleton]; omega, fun e he => ?_, hmat, by rw [List.length_append, List.length_singleton]; omega⟩
    rcases List.mem_append.1 he with he | he
    · rcases h.meet e he with h1 | h1
      · exact .inl (List.mem_append_left _ h1)
      · exact .inr h1
    · have h1 := (starE_in he).2.2
      rw [if_pos rfl] at h1
      rw [h1]
      exact .inl (by simp)
  | false =>
    refine ⟨cl, cr ++ [(L : Int)], _, by omega, hedge, up h.cL, more h.cR, by rw [List.length_append, List.length_singleton]; omega, fun e he => ?_, hmat, by rw [List.length_append, List.length_singleton]; omega⟩
    rcases List.mem_append.1 he with he | he
    · rcases h.meet e he with h1 | h1
      · exact .inl h1
      · exact .inr (List.mem_append_left _ h1)
    · have h1 := (starE_in he).2.2
      rw [if_neg (by decide)] at h1
      rw [h1]
      exact .inr (by simp)
theorem StarI.skip {L : Nat} {E : List Edg} {m : Nat} {cl cr M : List Int} (h : StarI L E m cl cr M) : StarI (L + 1) E m cl cr M :=
  ⟨by omega, fun e he => by have := h.edge e he; omega, h.cL.up (by omega), h.cR.up (by omega), h.size, h.meet, h.mat, h.msize⟩
/-- The graph of stars: as many pairs, and as few nodes, as there are stars. -/
theorem StarI.done {L : Nat} {E : List Edg} {m : Nat} {cl cr M : List Int} (h : StarI L E m cl cr M) (hL : L ≤ 200) (hE : E.length ≤ 1500) : (⟨L, L, E⟩ : Gr).Right ∧ ∀ f, MaxFlow (gnet ⟨L, L, E⟩) f → IsMatch ⟨L, L, E⟩ (pairsL f L E.length) ∧ (pairsL f L E.length).length = m := by
  have hp := h.pos
  have hR : (⟨L, L, E⟩ : Gr).Right := ⟨by show 1 ≤ (L : Int) ∧ (L : Int) ≤ 200; omega, by show 1 ≤ (L : Int) ∧ (L : Int) ≤ 200; omega, hE, fun e he => by have := h.edge e he; show (1 ≤ e.l ∧ e.l ≤ (L : Int)) ∧ (1 ≤ e.r ∧ e.r ≤ (L : Int)); omega⟩
  refine ⟨hR, fun f hf => ?_⟩
  have hb := pairs_best hR hf (nl := L) (nr := L) rfl rfl
  have hC : IsCover ⟨L, L, E⟩ cl cr := ⟨h.cL.up (by show (L : Int) - 1 ≤ L; omega), h.cR.up (by show (L : Int) - 1 ≤ L; omega), h.meet⟩
  have h1 := hb.2 M (IsMatch.congr (g := ⟨0, 0, E⟩) (g' := ⟨L, L, E⟩) rfl h.mat)
  have h2 := cover_most hb.1 hC
  have hs := h.size
  have hm := h.msize
  exact ⟨hb.1, by show (pairsL f L (⟨L, L, E⟩ : Gr).edges.length).length = m; omega⟩
/-- The bit that the law asks for. -/
def bitZ (a : Int) (b : Nat) : Int := IntKind.i64.wrap ((BitVec.ofInt IntKind.i64.bits (a.fdiv (2 ^ (min b IntKind.i64.bits))) &&& BitVec.ofInt IntKind.i64.bits 1).toNat)
set_option maxHeartbeats 4000000 in
theorem cstar_fn (A : Option Addr) (c b o : Nat) (l : List Int) (hA : l ≠ [] → A = some ⟨b, o, none⟩) (hl : ∀ x ∈ l, inB x) (_ : l.length * 8 ≤ 140737488351232) (left : Int) (_ : inB left) :
    Fn 9 [.slice A l.length c, .int .i64 left] [] [.seg b o (ints l)] fun v _ => v = .bool true := by
  refine Fn_of Try.func9 rfl rfl fun w0 => ?_
  (repeat' (first | refine J_seq ?_ | refine J_skip ?_ | refine J_yes rfl ?_ | refine J_no rfl ?_))
  refine J_region ?_
  refine JL_all [] rfl ?_
  (repeat' (first | refine J_seq ?_ | refine J_skip ?_ | refine J_yes rfl ?_ | refine J_no rfl ?_))
  refine J_region ?_
  refine JL_callR [] (shown17_fn) rfl rfl rfl rfl (by kernel_rfl) trivial (fun _ => rfl) ?_
  rintro v H' ⟨rfl, rfl⟩
  refine ⟨rfl, ?_⟩
  refine JL_all [] rfl ?_
  (repeat' (first | refine J_seq ?_ | refine J_skip ?_ | refine J_yes rfl ?_ | refine J_no rfl ?_))
  refine J_region ?_
  refine JL_run [] rfl ?_
  refine JL_run [2] rfl ?_
  refine JL_nil ?_
  refine J_dec rfl (fun h => ?_) (fun hlen => J_skip ?_)
  · (repeat' (first | refine J_seq ?_ | refine J_skip ?_ | refine J_yes rfl ?_ | refine J_no rfl ?_))
    refine J_region ?_
    refine JL_all [] rfl ?_
    exact J_ret ⟨_, rfl, rfl⟩
  have hlen' : l.length ≤ 20 := by omega
  (repeat' (first | refine J_seq ?_ | refine J_skip ?_ | refine J_yes rfl ?_ | refine J_no rfl ?_))
  refine J_region ?_
  refine JL_run [] rfl ?_
  refine JL_val [] (OpV_build rfl rfl rfl rfl rfl rfl) rfl ?_
  refine JL_alloc rfl rfl rfl (fun _ => rfl) fun p6 => ?_
  refine JL_store 0 rfl rfl rfl rfl rfl [] rfl ?_
  refine JL_nil ?_
  (repeat' (first | refine J_seq ?_ | refine J_skip ?_ | refine J_yes rfl ?_ | refine J_no rfl ?_))
  refine J_region ?_
  refine JL_all [] rfl ?_
  (repeat' (first | refine J_seq ?_ | refine J_skip ?_ | refine J_yes rfl ?_ | refine J_no rfl ?_))
  refine J_region ?_
  refine JL_all [] rfl ?_
  (repeat' (first | refine J_seq ?_ | refine J_skip ?_ | refine J_yes rfl ?_ | refine J_no rfl ?_))
  refine J_block ?_
  refine J_addnil 66 2 ?_
  refine J_loop (σ := Nat × Option Addr × Nat × Nat × List Edg × Nat) (fun s => [(8, .int .i64 s.1), (7, .int .i64 s.2.2.2.2.2), (6, .pointer (some ⟨p6, 0, none⟩)), (0, .slice A l.length c), (1, .int .i64 left)])
    (fun s => [.own (.slice s.2.1 s.2.2.2.2.1.length s.2.2.1) 66 2 s.2.2.2.2.1.length (edgs s.2.2.2.2.1), blk p6 64 [.int .i64 (s.2.2.2.1 : Int), .int .i64 (s.2.2.2.1 : Int), .slice s.2.1 s.2.2.2.2.1.length s.2.2.1], .seg b o (ints l)])
    (fun s => s.1 ≤ l.length ∧ s.2.2.2.1 ≤ 1 + 4 * s.1 ∧ s.2.2.2.2.1.length ≤ 4 * s.1 ∧ s.2.2.2.2.2 ≤ s.1 ∧ ∃ cl cr M, StarI s.2.2.2.1 s.2.2.2.2.1 s.2.2.2.2.2 cl cr M) (fun s => l.length - s.1)
    (0, none, 0, 1, [], 0) [0, 1, 2] ⟨rfl, rfl, rfl, rfl, rfl, trivial⟩ (by decide) rfl ⟨Nat.zero_le _, Nat.le_refl _, Nat.zero_le _, Nat.le_refl _, [], [], [], ⟨Nat.le_refl _, by simp, ⟨by simp, by simp⟩, ⟨by simp, by simp⟩, rfl, by simp, ⟨by simp, by simp, by simp⟩, rfl⟩⟩ ?_
  rintro ⟨i, A1, c1, L, E, m⟩ ⟨hi, hL, hE, hm, cl, cr, M, hI⟩
  simp only at hi hL hE hm hI ⊢
  (repeat' (first | refine J_seq ?_ | refine J_skip ?_ | refine J_yes rfl ?_ | refine J_no rfl ?_))
  refine J_region ?_
  refine JL_all [] rfl ?_
  refine J_dec rfl (fun hlt => J_skip ?_) (fun hge => J_exit ?_)
  · have hlt : i < l.length := by omega
    obtain rfl := hA (by rintro rfl; simp at hlt)
    obtain ⟨x, hx⟩ : ∃ x, l[i]? = some x := ⟨l[i], List.getElem?_eq_getElem hlt⟩
    have hpk := pickZ_in (c := x) (n := 5) (by decide)
    obtain ⟨k, hk⟩ : ∃ k : Nat, pickZ x 5 = k := ⟨(pickZ x 5).toNat, by omega⟩
    obtain ⟨side, hside⟩ : ∃ side, side = cdec (bitZ left (i % 20) = 1) := ⟨_, rfl⟩
    refine J_seq (J_block ?_)
    (repeat' (first | refine J_seq ?_ | refine J_skip ?_ | refine J_yes rfl ?_ | refine J_no rfl ?_))
    refine J_region ?_
    refine JL_run [] rfl ?_
    refine JL_val [] (idx1 rfl rfl rfl rfl rfl hlt) rfl ?_
    refine JL_val [] (ldseg 2 rfl rfl rfl rfl (readT_int' hx)) rfl ?_
    refine JL_callR [] (pick17_fn (hl x (List.mem_of_getElem? hx)) (by decide)) rfl rfl rfl rfl (by kernel_rfl) trivial (fun _ => rfl) ?_
    rintro v H' ⟨rfl, rfl⟩
    refine ⟨rfl, ?_⟩
    refine JL_all [] rfl ?_
    refine J_set 9 (v' := .int .i64 (k : Int)) rfl (congrArg (Value.int .i64) hk) ?_
    obtain ⟨m', hm'⟩ : ∃ m', m' = if 0 < k then m + 1 else m := ⟨_, rfl⟩
    refine J_cut [(9, .int .i64 (k : Int)), (8, .int .i64 i), (7, .int .i64 m'), (6, .pointer (some ⟨p6, 0, none⟩)), (0, .slice (some ⟨b, o, none⟩) l.length c), (1, .int .i64 left)]
      [.own (.slice A1 E.length c1) 66 2 E.length (edgs E), blk p6 64 [.int .i64 (L : Int), .int .i64 (L : Int), .slice A1 E.length c1], .seg b o (ints l)] ?_ ?_
    · (repeat' (first | refine J_seq ?_ | refine J_skip ?_ | refine J_yes rfl ?_ | refine J_no rfl ?_))
      refine J_region ?_
      refine JL_all [] rfl ?_
      refine J_dec rfl (fun h0 => ?_) (fun h0 => J_skip ?_)
      · refine J_region (JL_all [] rfl ?_)
        refine ⟨[0, 1, 2], ⟨rfl, rfl, ?_, rfl, rfl, rfl, trivial⟩, by decide, rfl⟩
        show some (Value.int .i64 (IntKind.i64.wrap ((m : Int) + 1))) = _
        rw [w64 (by omega), hm', if_pos (by omega)]; rfl
      · refine ⟨[0, 1, 2], ⟨rfl, rfl, ?_, rfl, rfl, rfl, trivial⟩, by decide, rfl⟩
        rw [hm', if_neg (by omega)]; rfl
    refine J_cutE (σ := Option Addr × Nat) (fun s => [(9, .int .i64 (k : Int)), (8, .int .i64 i), (7, .int .i64 m'), (6, .pointer (some ⟨p6, 0, none⟩)), (0, .slice (some ⟨b, o, none⟩) l.length c), (1, .int .i64 left)])
      (fun s => [.own (.slice s.1 (E ++ starE side L k).length s.2) 66 2 (E ++ starE side L k).length (edgs (E ++ starE side L k)), blk p6 64 [.int .i64 (L : Int), .int .i64 (L : Int), .slice s.1 (E ++ starE side L k).length s.2], .seg b o (ints l)]) ?_ ?_
    · (repeat' (first | refine J_seq ?_ | refine J_skip ?_ | refine J_yes rfl ?_ | refine J_no rfl ?_))
      refine J_region ?_
      refine JL_all [] rfl ?_
      refine J_block ?_
      refine J_loop (σ := Nat × Option Addr × Nat) (fun s => [(10, .int .i64 s.1), (9, .int .i64 (k : Int)), (8, .int .i64 i), (7, .int .i64 m'), (6, .pointer (some ⟨p6, 0, none⟩)), (0, .slice (some ⟨b, o, none⟩) l.length c), (1, .int .i64 left)])
        (fun s => [.own (.slice s.2.1 (E ++ starE side L s.1).length s.2.2) 66 2 (E ++ starE side L s.1).length (edgs (E ++ starE side L s.1)), blk p6 64 [.int .i64 (L : Int), .int .i64 (L : Int), .slice s.2.1 (E ++ starE side L s.1).length s.2.2], .seg b o (ints l)])
        (fun s => s.1 ≤ k) (fun s => k - s.1) (0, A1, c1) [0, 1, 2] ⟨rfl, rfl, rfl, rfl, rfl, rfl, rfl, trivial⟩ (by decide) (by simp only [show starE side L 0 = [] from rfl, List.append_nil]; rfl) (Nat.zero_le _) ?_
      rintro ⟨j, A2, c2⟩ hj
      simp only at hj ⊢
      have hjl : (E ++ starE side L j).length = E.length + j := by rw [List.length_append, starE_length]
      (repeat' (first | refine J_seq ?_ | refine J_skip ?_ | refine J_yes rfl ?_ | refine J_no rfl ?_))
      refine J_region ?_
      refine JL_all [] rfl ?_
      refine J_dec rfl (fun hlt2 => J_skip ?_) (fun hge => J_exit ?_)
      · refine J_seq (J_block ?_)
        (repeat' (first | refine J_seq ?_ | refine J_skip ?_ | refine J_yes rfl ?_ | refine J_no rfl ?_))
        refine J_region ?_
        refine JL_run [] rfl ?_
        refine JL_set 47 (v' := .int .i64 ((i % 20 : Nat) : Int)) rfl (congrArg (Value.int .i64) (by rw [Int.tmod_eq_emod_of_nonneg (by omega)]; rfl)) ?_
        refine JL_val [] (OpV_shr rfl rfl rfl) rfl ?_
        refine JL_run [] rfl ?_
        refine JL_nil ?_
        have hadd : IntKind.i64.wrap ((L : Int) + j) = ((L + j : Nat) : Int) := by rw [w64 (by omega)]; omega
        refine J_dec rfl (fun hbit => ?_) (fun hbit => ?_)
        · have hs1 : side = true := by rw [hside]; exact cdec_yes hbit
          have hnew : E ++ starE side L (j + 1) = (E ++ starE side L j) ++ [⟨(L : Int), ((L + j : Nat) : Int)⟩] := by rw [starE_succ, if_pos hs1, List.append_assoc]
          (repeat' (first | refine J_seq ?_ | refine J_skip ?_ | refine J_yes rfl ?_ | refine J_no rfl ?_))
          refine J_region ?_
          refine JL_run [] rfl ?_
          refine JL_val [] (OpV_blk 1 rfl rfl rfl rfl) rfl ?_
          refine JL_run [] rfl ?_
          refine JL_val [] (OpV_blk 1 rfl rfl rfl rfl) rfl ?_
          refine JL_run [] rfl ?_
          refine JL_val [] (OpV_blk 1 rfl rfl rfl rfl) rfl ?_
          refine JL_run [] rfl ?_
          refine JL_set 58 (v' := .int .i64 ((L + j : Nat) : Int)) rfl (congrArg (Value.int .i64) hadd) ?_
          refine JL_val [] (OpV_build rfl rfl rfl rfl rfl rfl) rfl ?_
          refine JL_lit rfl rfl rfl rfl rfl rfl rfl (fun _ => rfl) fun gx => ?_
          refine JL_appendS (off := 0) (m := 1) (news := edgs [⟨(L : Int), ((L + j : Nat) : Int)⟩]) 1 0 rfl rfl rfl rfl rfl rfl (by decide) rfl rfl (shows_blk gx _ _ (0, 0)) (fun _ => rfl) rfl rfl (by omega) (by omega) (fun _ _ => rfl) fun A3 c3 => ?_
          refine JL_run [] rfl ?_
          refine JL_store 2 rfl rfl rfl rfl rfl [] rfl ?_
          refine JL_nil ?_
          (repeat' (first | refine J_seq ?_ | refine J_skip ?_ | refine J_yes rfl ?_ | refine J_no rfl ?_))
          refine J_region ?_
          refine JL_all [] rfl ?_
          refine ⟨(j + 1, A3, c3), [1, 2, 3], ⟨?_, rfl, rfl, rfl, rfl, rfl, rfl, trivial⟩, by decide, ?_, by simp only; omega, by simp only; omega⟩
          · show some (Value.int .i64 (IntKind.i64.wrap ((j : Int) + 1))) = _
            rw [w64 (by omega)]; rfl
          · simp only [hnew, edgs_app, List.length_append, List.length_singleton]
            rfl
        · have hs1 : ¬ side = true := by rw [hside, cdec_no (show ¬ bitZ left (i % 20) = 1 from hbit)]; decide
          have hnew : E ++ starE side L (j + 1) = (E ++ starE side L j) ++ [⟨((L + j : Nat) : Int), (L : Int)⟩] := by rw [starE_succ, if_neg hs1, List.append_assoc]
          (repeat' (first | refine J_seq ?_ | refine J_skip ?_ | refine J_yes rfl ?_ | refine J_no rfl ?_))
          refine J_region ?_
          refine JL_run [] rfl ?_
          refine JL_val [] (OpV_blk 1 rfl rfl rfl rfl) rfl ?_
          refine JL_run [] rfl ?_
          refine JL_val [] (OpV_blk 1 rfl rfl rfl rfl) rfl ?_
          refine JL_run [] rfl ?_
          refine JL_val [] (OpV_blk 1 rfl rfl rfl rfl) rfl ?_
          refine JL_set 68 (v' := .int .i64 ((L + j : Nat) : Int)) rfl (congrArg (Value.int .i64) hadd) ?_
          refine JL_val [] (OpV_build rfl rfl rfl rfl rfl rfl) rfl ?_
          refine JL_lit rfl rfl rfl rfl rfl rfl rfl (fun _ => rfl) fun gx => ?_
          refine JL_appendS (off := 0) (m := 1) (news := edgs [⟨((L + j : Nat) : Int), (L : Int)⟩]) 1 0 rfl rfl rfl rfl rfl rfl (by decide) rfl rfl (shows_blk gx _ _ (0, 0)) (fun _ => rfl) rfl rfl (by omega) (by omega) (fun _ _ => rfl) fun A3 c3 => ?_
          refine JL_run [] rfl ?_
          refine JL_store 2 rfl rfl rfl rfl rfl [] rfl ?_
          refine JL_nil ?_
          (repeat' (first | refine J_seq ?_ | refine J_skip ?_ | refine J_yes rfl ?_ | refine J_no rfl ?_))
          refine J_region ?_
          refine JL_all [] rfl ?_
          refine ⟨(j + 1, A3, c3), [1, 2, 3], ⟨?_, rfl, rfl, rfl, rfl, rfl, rfl, trivial⟩, by decide, ?_, by simp only; omega, by simp only; omega⟩
          · show some (Value.int .i64 (IntKind.i64.wrap ((j : Int) + 1))) = _
            rw [w64 (by omega)]; rfl
          · simp only [hnew, edgs_app, List.length_append, List.length_singleton]
            rfl
      · obtain rfl : j = k := by omega
        exact ⟨(A2, c2), ⟨rfl, rfl, rfl, rfl, rfl, rfl, trivial⟩, Fit.refl⟩
    rintro ⟨A2, c2⟩
    simp only
    have hmax : ∀ z : Int, z = ((max k 1 : Nat) : Int) → IntKind.i64.wrap ((L : Int) + z) = ((L + max k 1 : Nat) : Int) := fun z hz => by rw [hz, w64 (by omega)]; omega
    (repeat' (first | refine J_seq ?_ | refine J_skip ?_ | refine J_yes rfl ?_ | refine J_no rfl ?_))
    refine J_region ?_
    refine JL_run [] rfl ?_
    refine JL_val [] (OpV_blk 1 rfl rfl rfl rfl) rfl ?_
    refine JL_run [] rfl ?_
    refine JL_set 79 (v' := .int .i64 ((L + max k 1 : Nat) : Int)) rfl (congrArg (Value.int .i64) (hmax _ (by split <;> omega))) ?_
    refine JL_store 1 rfl rfl rfl rfl rfl [] rfl ?_
    refine JL_nil ?_
    (repeat' (first | refine J_seq ?_ | refine J_skip ?_ | refine J_yes rfl ?_ | refine J_no rfl ?_))
    refine J_region ?_
    refine JL_run [] rfl ?_
    refine JL_val [] (OpV_blk 1 rfl rfl rfl rfl) rfl ?_
    refine JL_run [] rfl ?_
    refine JL_set 85 (v' := .int .i64 ((L + max k 1 : Nat) : Int)) rfl (congrArg (Value.int .i64) (hmax _ (by split <;> omega))) ?_
    refine JL_store 1 rfl rfl rfl rfl rfl [] rfl ?_
    refine JL_nil ?_
    (repeat' (first | refine J_seq ?_ | refine J_skip ?_ | refine J_yes rfl ?_ | refine J_no rfl ?_))
    refine J_region ?_
    refine JL_all [] rfl ?_
    refine ⟨(i + 1, A2, c2, L + max k 1, E ++ starE side L k, m'), [0, 1, 2], ⟨?_, rfl, rfl, rfl, rfl, trivial⟩, by decide, rfl, ⟨by simp only; omega, by simp only; omega, by simp only [List.length_append, starE_length]; omega, by simp only; rw [hm']; split <;> omega, ?_⟩, by simp only; omega⟩
    · show some (Value.int .i64 (IntKind.i64.wrap ((i : Int) + 1))) = _
      rw [w64 (by omega)]; rfl
    · simp only
      by_cases h0 : 0 < k
      · rw [hm', if_pos h0, show max k 1 = k by omega]
        exact hI.step side h0
      · obtain rfl : k = 0 := by omega
        rw [hm', if_neg h0, show max 0 1 = 1 from rfl, show starE side L 0 = [] from rfl, List.append_nil]
        exact ⟨cl, cr, M, hI.skip⟩
  · obtain rfl : i = l.length := by omega
    obtain ⟨hg, hpr⟩ := hI.done (by omega) (by omega)
    obtain ⟨g, hgd⟩ : ∃ g : Gr, g = ⟨L, L, E⟩ := ⟨_, rfl⟩
    refine J_know (own_is 0 rfl) fun ⟨_, _, hA1, hl1⟩ => ?_
    obtain ⟨ge, hA1⟩ := own_at hA1 hl1
    have hA1' : (⟨L, L, E⟩ : Gr).edges ≠ [] → A1 = some ⟨ge, 0, none⟩ := edgs_at hA1
    (repeat' (first | refine J_seq ?_ | refine J_skip ?_ | refine J_yes rfl ?_ | refine J_no rfl ?_))
    refine J_region ?_
    refine JL_val [] (v := grV ⟨L, L, E⟩ A1 c1) (OpV_blk 1 rfl rfl rfl rfl) rfl ?_
    refine JL_callR [] (pairs_fn ⟨L, L, E⟩ hg A1 c1 ge 0 hA1' L rfl) rfl rfl rfl rfl (by kernel_rfl) ⟨⟨0, _, by simp, rfl, shows_ownS hA1, seen_ownS hA1⟩, trivial⟩ (fun _ => rfl) ?_
    rintro v H' ⟨f, Ap, cp, hf, rfl, rfl⟩
    refine ⟨rfl, ?_⟩
    obtain ⟨hpM, hpm⟩ := hpr f hf
    have hpN : ∀ w, AltR ⟨L, L, E⟩ (pairsL f L E.length) w → Met ⟨L, L, E⟩ (·.r) (pairsL f L E.length) w := flow_no_more hg hf (nl := L) (nr := L) rfl rfl
    rw [show (⟨L, L, E⟩ : Gr).edges.length = E.length from rfl]
    generalize pairsL f L E.length = pl at hpM hpN hpm
    have hprng := hpM.rng
    have hpin : ∀ x ∈ pl, inB x := fun x hx => by have := hprng x hx; rw [show (⟨L, L, E⟩ : Gr).edges.length = E.length from rfl] at this; unfold inB; omega
    refine JL_all [] rfl ?_
    refine J_know (own_is 0 rfl) fun ⟨_, _, hAp, hp1⟩ => ?_
    obtain ⟨gp, hAp⟩ := own_at hAp hp1
    (repeat' (first | refine J_seq ?_ | refine J_skip ?_ | refine J_yes rfl ?_ | refine J_no rfl ?_))
    refine J_region ?_
    refine JL_val [] (v := grV ⟨L, L, E⟩ A1 c1) (OpV_blk 2 rfl rfl rfl rfl) rfl ?_
    refine JL_run [] rfl ?_
    refine JL_callR [] (cof_fn ⟨L, L, E⟩ hg A1 c1 ge 0 hA1' pl (by omega) hpin Ap cp gp 0 (ints_at hAp)) rfl rfl rfl rfl (by kernel_rfl) ⟨⟨1, _, by simp, rfl, shows_ownS hA1, seen_ownS hA1⟩, ⟨0, _, by simp, rfl, shows_ownS hAp, seen_ownS hAp⟩, trivial⟩ (fun _ => rfl) ?_
    rintro v H' (⟨_, _, sl, sr, Al, Ar, kl, kr, i1, i2, i3, i4, rfl, rfl⟩ | ⟨_, ⟨w, hw, hw'⟩, _, _⟩ | ⟨hMn, _, _⟩)
    rotate_left
    · exact absurd (hpN w hw) hw'
    · exact absurd hpM hMn
    obtain ⟨hC, hlen2⟩ := of_cover hg hpM hpN i1 i2 i3 i4
    refine ⟨rfl, ?_⟩
    refine JL_know (own_is 0 rfl) fun ⟨_, _, hAr, hr1⟩ => ?_
    obtain ⟨gr, hAr⟩ := own_at hAr hr1
    refine JL_know (own_is 1 rfl) fun ⟨_, _, hAl, hl1⟩ => ?_
    obtain ⟨gl, hAl⟩ := own_at hAl hl1
    refine JL_run [] rfl ?_
    refine JL_alloc rfl rfl rfl (fun _ => rfl) fun p13 => ?_
    refine JL_store 0 rfl rfl rfl rfl rfl [] rfl ?_
    refine JL_all [] rfl ?_
    (repeat' (first | refine J_seq ?_ | refine J_skip ?_ | refine J_yes rfl ?_ | refine J_no rfl ?_))
    refine J_region ?_
    refine JL_run [] rfl ?_
    refine JL_set 100 (v' := .bool true) rfl (congrArg Value.bool (cdec_yes rfl)) ?_
    refine JL_run [2] rfl ?_
    refine JL_set 104 (v' := .bool true) rfl (congrArg Value.bool (cdec_yes rfl)) ?_
    refine JL_run [6] rfl ?_
    refine JL_set 110 (v' := .bool true) rfl (congrArg Value.bool (cdec_yes (by omega))) ?_
    refine JL_run [12] rfl ?_
    refine JL_val [12] (OpV_blk 0 rfl rfl rfl rfl) rfl ?_
    refine JL_run [12] rfl ?_
    refine JL_val [12] (OpV_blk 0 rfl rfl rfl rfl) rfl ?_
    refine JL_run [12] rfl ?_
    refine JL_set 121 (v' := .bool true) rfl (congrArg Value.bool (cdec_yes (by rw [w64 (by omega)]; omega))) ?_
    refine JL_val [23] (v := grV ⟨L, L, E⟩ A1 c1) (OpV_blk 5 rfl rfl rfl rfl) rfl ?_
    refine JL_run [23] rfl ?_
    refine JL_val [23] (v := setV sl sr Al Ar kl kr) (OpV_blk 0 rfl rfl rfl rfl) rfl ?_
    refine JL_callR [23] (cprove_fn ⟨L, L, E⟩ hg A1 c1 ge 0 hA1' pl (by omega) hpin Ap cp gp 0 (ints_at hAp) sl (by omega) Al kl gl 0 (ints_at hAl) sr (by omega) Ar kr gr 0 (ints_at hAr)) rfl rfl rfl rfl (by kernel_rfl) ⟨⟨4, _, by simp, rfl, shows_ownS hA1, seen_ownS hA1⟩, ⟨3, _, by simp, rfl, shows_ownS hAp, seen_ownS hAp⟩, ⟨2, _, by simp, rfl, shows_ownS hAl, seen_ownS hAl⟩, ⟨1, _, by simp, rfl, shows_ownS hAr, seen_ownS hAr⟩, trivial⟩ (fun _ => rfl) ?_
    rintro v H' ⟨rfl, rfl⟩
    refine ⟨rfl, ?_⟩
    refine JL_all [23] rfl ?_
    exact J_ret ⟨_, rfl, congrArg Value.bool (cdec_yes (proveZ_ok hpM hC hlen2))⟩
end Go.Proofs.Ytbhfbpeldcnpfaa
