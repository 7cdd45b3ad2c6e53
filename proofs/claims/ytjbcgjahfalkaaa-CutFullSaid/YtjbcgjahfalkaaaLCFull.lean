
/- CutFull: each arc that crosses the least cut of a greatest flow, or the greatest one, is full, each that comes back is empty. -/
import Derived.Test.YtjbcgjahfalkaaaQF
import Derived.Test.YtjbcgjahfalkaaaProveN
import Derived.Test.YtjbcgjahfalkaaaMaxG
import Derived.Test.YtjbcgjahfalkaaaSame5
import Derived.Test.YtjbcgjahfalkaaaMoreP
set_option linter.unusedVariables false
set_option linter.unusedSimpArgs false
namespace Go.Proofs.Ytjbcgjahfalkaaa
open Go.RowKit
section
variable {X : Cx} {Q : Post} {E : Env} {H : Heap}
/-- 'make([]T, n, c)'. -/
theorem JL_makeG (gs : List Nat) {F : Nat → Env} {ops l : List Oper} {o : Oper} {t e sz by_ sz' by' n c : Nat} {x y : Operand} {k1 k2 : IntKind} {uk : UK} {v : Value} {z : Option Value} {zs : List Value} (ho : o.op = .makeSlice t x y)
    (hx : val E x = some (.int k1 (n : Int))) (hy : val E y = some (.int k2 (c : Int))) (ht : tab t = some ⟨.slice e, sz', by', z⟩) (he : tab e = some ⟨uk, sz, by_, some v⟩) (hz : v.cells = zs.toArray)
    (hnc : n ≤ c) (hc : c * by_ ≤ 140737488355328) (hc2 : c ≤ 2147483648) (hb : ∀ b, bef X.n ops gs E o (.slice (some ⟨b, 0, none⟩) n c) = some (F b))
    (h : ∀ b, JL X ops l Q (F b) (.own (.slice (some ⟨b, 0, none⟩) n c) e sz n (made zs (n * sz)) :: H)) : JL X ops (o :: l) Q E H := by
  obtain ⟨j, hi, hjz, hjs, hjb⟩ := zero_size he
  refine JL_some (f := fun b => .slice (some ⟨b, 0, none⟩) n c) (G := fun b => .own (.slice (some ⟨b, 0, none⟩) n c) e sz n (made zs (n * sz)) :: H) gs hb (fun a w hA hH => ?_) h
  have hbb : (j.bytes : Int) * (c : Int) ≤ 281474976710656 := by
    have h2 : ((by_ * c : Nat) : Int) ≤ ((140737488355328 : Nat) : Int) := Int.ofNat_le.2 (by rw [Nat.mul_comm]; exact hc)
    rw [Int.natCast_mul] at h2
    rw [hjb]
    exact Int.le_trans h2 (by decide)
  have hr := run_make (P := Try.prog) w t e j v (und_slice ht) hi hjz k1 k2 (n : Int) (c : Int) (by omega) (by omega) hbb (by omega)
  simp only [Int.toNat_natCast] at hr
  refine ⟨w.heap.size, w.alloc (.cells (madeCells v.cells (c * j.size)) e), by simp [execOp, ho, hA.val hx, hA.val hy, hr], ?_⟩
  refine hH.grow rfl rfl rfl (by simp) (fun k hk => alloc_old w _ k hk) ?_ (fun b hb => by simp only [Chunk.at_, Value.ownBlock, Option.some.injEq] at hb; omega)
  refine ⟨made_length _ _, .inr ⟨w.heap.size, c, _, rfl, Nat.zero_le _, heap_alloc_new w _, hnc, by unfold maxLen; omega, by rw [size_madeCells, hjs], ?_⟩⟩
  apply List.ext_getElem
  · simp only [List.length_take, Array.length_toList, size_madeCells, made_length, hjs]
    exact Nat.min_eq_left (Nat.mul_le_mul_right _ hnc)
  · intro i h1 h2
    simp [made, madeCells, hz]
end
theorem closed_full {N : Net} {f s : List Int} (hf : Ranged N f) (hc : Closed N f s) {i : Nat} {a : Arc} {x : Int} (ha : N.arcs[i]? = some a) (hx : f[i]? = some x) : (a.fr ∈ s → a.to ∉ s → x = a.cap) ∧ (a.to ∈ s → a.fr ∉ s → x = 0) := by
  have hz := zip_some ha hx
  obtain ⟨g1, g2⟩ := roomL_get hz
  have hr := hf.all _ (List.mem_of_getElem? hz)
  have hil := (List.getElem?_eq_some_iff.1 ha).1
  simp only at g1 g2 hr
  have e1 : endsZ N (2 * i) = (a.fr, a.to) := by
    unfold endsZ; rw [show 2 * i / 2 = i by omega, ha]; show endsOf a (2 * i) = _; unfold endsOf; rw [if_neg (by omega)]
  have e2 : endsZ N (2 * i + 1) = (a.to, a.fr) := by
    unfold endsZ; rw [show (2 * i + 1) / 2 = i by omega, ha]; show endsOf a (2 * i + 1) = _; unfold endsOf; rw [if_pos (by omega)]
  have k1 := hc (2 * i) (by omega)
  have k2 := hc (2 * i + 1) (by omega)
  rw [e1, List.getD_eq_getElem?_getD, g1, Option.getD_some] at k1
  rw [e2, List.getD_eq_getElem?_getD, g2, Option.getD_some] at k2
  refine ⟨fun h1 h2 => ?_, fun h1 h2 => ?_⟩
  · have : ¬ 1 ≤ a.cap - x := fun h => h2 (k1 h h1)
    omega
  · have : ¬ 1 ≤ x := fun h => h2 (k2 h h1)
    omega
theorem cdec_t {p : Prop} (h : cdec p = true) : p := by
  by_cases hp : p
  · exact hp
  · rw [cdec_no hp] at h; cases h
theorem cdec_f {p : Prop} (h : cdec p = false) : ¬ p := fun hp => by rw [cdec_yes hp] at h; cases h
set_option maxHeartbeats 8000000 in
theorem cutFull_fn (nodes : Int) (hn : inB nodes) (ends : Int) (he : inB ends) (A : Option Addr) (c b o : Nat) (l : List Arc) (hA : l ≠ [] → A = some ⟨b, o, none⟩) (hl : ∀ x ∈ l, inB x.fr ∧ inB x.to ∧ inB x.cap) (hs : l.length * 24 ≤ 140737488351232) :
    Fn 5 [.int .i64 nodes, .int .i64 ends, .slice A l.length c] [] [.seg b o (arcs l)] fun v _ => v = .bool true := by
  refine Fn_of Try.func5 rfl rfl fun w0 => ?_
  (repeat' (first | refine J_seq ?_ | refine J_skip ?_ | refine J_yes rfl ?_ | refine J_no rfl ?_))
  refine J_region ?_
  refine JL_all [] rfl ?_
  (repeat' (first | refine J_seq ?_ | refine J_skip ?_ | refine J_yes rfl ?_ | refine J_no rfl ?_))
  refine J_region ?_
  refine JL_callR [] (shown14_fn) rfl rfl rfl rfl (by kernel_rfl) trivial (fun _ => rfl) ?_
  rintro v H' ⟨rfl, rfl⟩
  refine ⟨rfl, ?_⟩
  refine JL_all [] rfl ?_
  (repeat' (first | refine J_seq ?_ | refine J_skip ?_ | refine J_yes rfl ?_ | refine J_no rfl ?_))
  refine J_region ?_
  refine JL_all [] rfl ?_
  (repeat' (first | refine J_seq ?_ | refine J_skip ?_ | refine J_yes rfl ?_ | refine J_no rfl ?_))
  refine J_region ?_
  refine JL_run [] rfl ?_
  refine JL_callR [] (made14_fn nodes ends hn he A c b o l hA hl (by omega)) rfl rfl rfl rfl (by kernel_rfl) ⟨⟨0, _, by simp, rfl, shows_seg _ _ _, seen_seg⟩, trivial⟩ (fun _ => rfl) ?_
  rintro v H' ⟨N, A1, cn, hR, hn9, h24, hcm, rfl, rfl⟩
  refine ⟨rfl, ?_⟩
  refine JL_alloc rfl rfl rfl (fun _ => rfl) fun b8 => ?_
  refine JL_store 0 rfl rfl rfl rfl rfl [] rfl ?_
  refine JL_know (own_is 1 rfl) fun ⟨_, _, hA1, hla⟩ => ?_
  obtain ⟨g1, hA1⟩ := own_at hA1 hla
  have hA1' : N.arcs ≠ [] → A1 = some ⟨g1, 0, none⟩ := fun h => hA1 (fun h0 => h (List.length_eq_zero_iff.1 (by have := arcs_length N.arcs; rw [h0] at this; simp at this; omega)))
  refine JL_nil ?_
  have hF := hR.fits2
  have hz := zeroFlow N hR
  have hnn := hR.nodes
  have hsr := hR.src
  have hsk := hR.snk
  obtain ⟨n, hnd⟩ : ∃ n : Nat, N.nodes = n := ⟨N.nodes.toNat, by omega⟩
  (repeat' (first | refine J_seq ?_ | refine J_skip ?_ | refine J_yes rfl ?_ | refine J_no rfl ?_))
  refine J_region ?_
  refine JL_val [] (v := netV N A1 cn) (OpV_blk 0 rfl rfl rfl rfl) rfl ?_
  refine JL_callR [] (maxG_fn N hF hR A1 cn g1 0 hA1' 116 (.inr rfl)) rfl rfl rfl rfl (by kernel_rfl) ⟨⟨1, _, by simp, rfl, shows_ownS hA1, seen_ownS hA1⟩, trivial⟩ (fun _ => rfl) ?_
  rintro v H' ⟨f, ph, wk, st, Af, cf, hdn, _, _, _, _, _, rfl, rfl⟩
  obtain ⟨hf, _, _, lv, hlv, hlt⟩ := hdn.keeps hR (by decide) hz
  have hno := no_reach hf.toRanged hlv hlt
  have hfl := hf.len
  have hfin := IsFlow.inB hR hf.toRanged
  refine ⟨rfl, ?_⟩
  refine JL_run [] rfl ?_
  refine JL_alloc rfl rfl rfl (fun _ => rfl) fun b9 => ?_
  refine JL_store 0 rfl rfl rfl rfl rfl [] rfl ?_
  refine JL_all [] rfl ?_
  refine J_know (own_is 1 rfl) fun ⟨_, _, hAf, hlf⟩ => ?_
  obtain ⟨gf, hAf⟩ := own_at hAf hlf
  have hAf' : f ≠ [] → Af = some ⟨gf, 0, none⟩ := fun h => hAf (by simpa [ints] using h)
  (repeat' (first | refine J_seq ?_ | refine J_skip ?_ | refine J_yes rfl ?_ | refine J_no rfl ?_))
  refine J_region ?_
  refine JL_val [] (v := netV N A1 cn) (OpV_blk 2 rfl rfl rfl rfl) rfl ?_
  refine JL_run [] rfl ?_
  refine JL_val [] (OpV_blk (v := .slice Af f.length cf) 0 rfl rfl rfl rfl) rfl ?_
  refine JL_callR [] (first_fn N hF hR A1 cn g1 0 hA1' f Af cf gf 0 hAf' hfin (by omega) n hnd) rfl rfl rfl rfl (by kernel_rfl) ⟨⟨3, _, by simp, rfl, shows_ownS hA1, seen_ownS hA1⟩, ⟨1, _, by simp, rfl, shows_ownS hAf, seen_ownS hAf⟩, trivial⟩ (fun _ => rfl) ?_
  rintro _ H' (⟨_, _, lb, Aa, ca, hll, hlr, rfl, rfl⟩ | ⟨hW, _, _⟩ | ⟨_, hr, _, _⟩)
  case inr.inl => exact absurd hf hW
  case inr.inr => exact absurd hr hno
  obtain ⟨hca, hcla⟩ := first_cut hR hf hnd hno hlr
  have hsa := whereK_length lb true (n + 1)
  obtain ⟨sa, hsae⟩ : ∃ sa, sa = whereK lb true (n + 1) := ⟨_, rfl⟩
  rw [← hsae] at hca hcla hsa ⊢
  refine ⟨rfl, ?_⟩
  refine JL_all [] rfl ?_
  (repeat' (first | refine J_seq ?_ | refine J_skip ?_ | refine J_yes rfl ?_ | refine J_no rfl ?_))
  refine J_region ?_
  refine JL_val [] (v := netV N A1 cn) (OpV_blk 3 rfl rfl rfl rfl) rfl ?_
  refine JL_run [] rfl ?_
  refine JL_val [] (OpV_blk (v := .slice Af f.length cf) 1 rfl rfl rfl rfl) rfl ?_
  refine JL_callR [] (last_fn N hF hR A1 cn g1 0 hA1' f Af cf gf 0 hAf' hfin (by omega) n hnd hf) rfl rfl rfl rfl (by kernel_rfl) ⟨⟨4, _, by simp, rfl, shows_ownS hA1, seen_ownS hA1⟩, ⟨2, _, by simp, rfl, shows_ownS hAf, seen_ownS hAf⟩, trivial⟩ (fun _ => rfl) ?_
  rintro _ H' (⟨hr, _, _⟩ | ⟨_, lb2, Ab, cb, hll2, hlr2, rfl, rfl⟩)
  case inl => exact absurd hr hno
  obtain ⟨hcb, hclb⟩ := last_cut hR hf hnd hno hll2 hlr2
  have hsb := whereK_length lb2 false (n + 1)
  obtain ⟨sb, hsbe⟩ : ∃ sb, sb = whereK lb2 false (n + 1) := ⟨_, rfl⟩
  rw [← hsbe] at hcb hclb hsb ⊢
  refine ⟨rfl, ?_⟩
  refine JL_all [] rfl ?_
  refine J_know (own_is 0 rfl) fun ⟨_, _, hAb, hlb⟩ => ?_
  obtain ⟨gb, hAb⟩ := own_at hAb hlb
  have hAb' : sb ≠ [] → Ab = some ⟨gb, 0, none⟩ := fun h => hAb (by simpa [ints] using h)
  refine J_know (own_is 1 rfl) fun ⟨_, _, hAa, hlaa⟩ => ?_
  obtain ⟨ga, hAa⟩ := own_at hAa hlaa
  have hAa' : sa ≠ [] → Aa = some ⟨ga, 0, none⟩ := fun h => hAa (by simpa [ints] using h)
  (repeat' (first | refine J_seq ?_ | refine J_skip ?_ | refine J_yes rfl ?_ | refine J_no rfl ?_))
  refine J_region ?_
  refine JL_evO (gs := [999]) rfl ?_
  refine JL_evO (gs := [999]) rfl ?_
  refine JL_evO (gs := [999]) rfl ?_
  refine JL_set 51 (v' := .bool false) rfl (congrArg Value.bool (cdec_no (fun h => h rfl))) ?_
  refine JL_all [2] rfl ?_
  (repeat' (first | refine J_seq ?_ | refine J_skip ?_ | refine J_yes rfl ?_ | refine J_no rfl ?_))
  refine J_dec rfl (fun h => absurd rfl h) (fun _ => J_skip ?_)
  (repeat' (first | refine J_seq ?_ | refine J_skip ?_ | refine J_yes rfl ?_ | refine J_no rfl ?_))
  refine J_region ?_
  refine JL_all [] rfl ?_
  (repeat' (first | refine J_seq ?_ | refine J_skip ?_ | refine J_yes rfl ?_ | refine J_no rfl ?_))
  refine J_block ?_
  refine J_loopF (σ := Nat) (fun t => [(15, .int .i64 (t : Int)), (11, .slice Aa sa.length ca), (13, .slice Ab sb.length cb), (9, .pointer (some ⟨b9, 0, none⟩)), (8, .pointer (some ⟨b8, 0, none⟩))])
    (fun _ => [.own (.slice Ab sb.length cb) 3 1 sb.length (ints sb), .own (.slice Aa sa.length ca) 3 1 sa.length (ints sa), blk b9 31 [.slice Af f.length cf, .int .i64 ph, .int .i64 wk, .int .i64 st], .own (.slice Af f.length cf) 2 1 f.length (ints f), blk b8 27 (netC N A1 cn), .own (.slice A1 N.arcs.length cn) 42 3 N.arcs.length (arcs N.arcs)])
    (fun t => t ≤ N.arcs.length) (fun t => N.arcs.length - t) 0 ⟨rfl, rfl, rfl, rfl, rfl, trivial⟩ (Fit.picks [0, 1, 2, 3, 4, 5] (by decide) rfl) (Nat.zero_le _) ?_
  intro k hk
  (repeat' (first | refine J_seq ?_ | refine J_skip ?_ | refine J_yes rfl ?_ | refine J_no rfl ?_))
  refine J_region ?_
  refine JL_run [] rfl ?_
  refine JL_val [] (v := .slice A1 N.arcs.length cn) (OpV_blk 4 rfl rfl rfl rfl) rfl ?_
  refine JL_all [] rfl ?_
  refine J_dec rfl (fun hlt => J_skip ?_) (fun hge => J_exit ?_)
  · have hkl : k < N.arcs.length := by omega
    obtain ⟨a, ha⟩ : ∃ a, N.arcs[k]? = some a := ⟨N.arcs[k], List.getElem?_eq_getElem hkl⟩
    obtain ⟨x, hx⟩ : ∃ x, f[k]? = some x := ⟨f[k]'(by omega), List.getElem?_eq_getElem _⟩
    obtain ⟨f1, f2⟩ := closed_full hf.toRanged hcla ha hx
    obtain ⟨f3, f4⟩ := closed_full hf.toRanged hclb ha hx
    obtain rfl := hA1' (by intro h0; rw [h0] at hkl; simp at hkl)
    obtain rfl := hAf' (by intro h0; rw [h0] at hfl; simp at hfl; omega)
    refine J_seq (J_block ?_)
    (repeat' (first | refine J_seq ?_ | refine J_skip ?_ | refine J_yes rfl ?_ | refine J_no rfl ?_))
    refine J_region ?_
    refine JL_run [] rfl ?_
    refine JL_val [] (v := .slice (some ⟨g1, 0, none⟩) N.arcs.length cn) (OpV_blk 4 rfl rfl rfl rfl) rfl ?_
    refine JL_run [] rfl ?_
    refine JL_val [] (idxNz rfl rfl rfl rfl rfl hkl) rfl ?_
    refine JL_val [] (OpV_own 5 rfl rfl rfl (readT_arc ha)) rfl ?_
    refine JL_alloc rfl rfl rfl (fun _ => rfl) fun q => ?_
    refine JL_store 0 rfl rfl rfl rfl rfl [] rfl ?_
    refine JL_nil ?_
    have Hs : ∀ x, Fn 28 [.slice Aa sa.length ca, .int .i64 x] [] [.seg ga 0 (ints sa)] _ := has_fn Aa ca ga 0 sa hAa' (by omega)
    have Ht : ∀ x, Fn 28 [.slice Ab sb.length cb, .int .i64 x] [] [.seg gb 0 (ints sb)] _ := has_fn Ab cb gb 0 sb hAb' (by omega)
    (repeat' (first | refine J_seq ?_ | refine J_skip ?_ | refine J_yes rfl ?_ | refine J_no rfl ?_))
    refine J_region ?_
    refine JL_run [] rfl ?_
    refine JL_val [] (v := .int .i64 a.fr) (OpV_blk 0 rfl rfl rfl rfl) rfl ?_
    refine JL_callR [] (Hs a.fr) rfl rfl rfl rfl (by kernel_rfl) ⟨⟨2, _, by simp, rfl, shows_ownS hAa, seen_ownS hAa⟩, trivial⟩ (fun _ => rfl) ?_
    rintro _ H' ⟨rfl, rfl⟩
    refine ⟨rfl, ?_⟩
    refine JL_all [] rfl ?_
    (repeat' (first | refine J_seq ?_ | refine J_skip ?_ | refine J_yes rfl ?_ | refine J_no rfl ?_))
    refine J_region ?_
    refine JL_run [] rfl ?_
    refine JL_val [] (v := .int .i64 a.to) (OpV_blk 0 rfl rfl rfl rfl) rfl ?_
    refine JL_callR [] (Hs a.to) rfl rfl rfl rfl (by kernel_rfl) ⟨⟨2, _, by simp, rfl, shows_ownS hAa, seen_ownS hAa⟩, trivial⟩ (fun _ => rfl) ?_
    rintro _ H' ⟨rfl, rfl⟩
    refine ⟨rfl, ?_⟩
    refine JL_all [] rfl ?_
    (repeat' (first | refine J_seq ?_ | refine J_skip ?_ | refine J_yes rfl ?_ | refine J_no rfl ?_))
    refine J_region ?_
    refine JL_run [] rfl ?_
    refine JL_val [] (v := .int .i64 a.fr) (OpV_blk 0 rfl rfl rfl rfl) rfl ?_
    refine JL_callR [] (Ht a.fr) rfl rfl rfl rfl (by kernel_rfl) ⟨⟨1, _, by simp, rfl, shows_ownS hAb, seen_ownS hAb⟩, trivial⟩ (fun _ => rfl) ?_
    rintro _ H' ⟨rfl, rfl⟩
    refine ⟨rfl, ?_⟩
    refine JL_all [] rfl ?_
    (repeat' (first | refine J_seq ?_ | refine J_skip ?_ | refine J_yes rfl ?_ | refine J_no rfl ?_))
    refine J_region ?_
    refine JL_run [] rfl ?_
    refine JL_val [] (v := .int .i64 a.to) (OpV_blk 0 rfl rfl rfl rfl) rfl ?_
    refine JL_callR [] (Ht a.to) rfl rfl rfl rfl (by kernel_rfl) ⟨⟨1, _, by simp, rfl, shows_ownS hAb, seen_ownS hAb⟩, trivial⟩ (fun _ => rfl) ?_
    rintro _ H' ⟨rfl, rfl⟩
    refine ⟨rfl, ?_⟩
    refine JL_all [] rfl ?_
    obtain ⟨d1, e1⟩ : ∃ d, d = cdec (a.fr ∈ sa) := ⟨_, rfl⟩
    obtain ⟨d2, e2⟩ : ∃ d, d = cdec (a.to ∈ sa) := ⟨_, rfl⟩
    obtain ⟨d3, e3⟩ : ∃ d, d = cdec (a.fr ∈ sb) := ⟨_, rfl⟩
    obtain ⟨d4, e4⟩ : ∃ d, d = cdec (a.to ∈ sb) := ⟨_, rfl⟩
    have hfull : (d1 = true ∧ d2 = false) ∨ (d3 = true ∧ d4 = false) → ¬ x ≠ a.cap := by
      rintro (⟨h1, h2⟩ | ⟨h1, h2⟩) h
      · exact h (f1 (cdec_t (e1 ▸ h1)) (cdec_f (e2 ▸ h2)))
      · exact h (f3 (cdec_t (e3 ▸ h1)) (cdec_f (e4 ▸ h2)))
    have hempty : (d2 = true ∧ d1 = false) ∨ (d4 = true ∧ d3 = false) → ¬ x ≠ 0 := by
      rintro (⟨h1, h2⟩ | ⟨h1, h2⟩) h
      · exact h (f2 (cdec_t (e2 ▸ h1)) (cdec_f (e1 ▸ h2)))
      · exact h (f4 (cdec_t (e4 ▸ h1)) (cdec_f (e3 ▸ h2)))
    refine J_set 17 (v' := .bool d1) rfl (congrArg Value.bool e1.symm) ?_
    refine J_set 18 (v' := .bool d2) rfl (congrArg Value.bool e2.symm) ?_
    refine J_set 19 (v' := .bool d3) rfl (congrArg Value.bool e3.symm) ?_
    refine J_set 20 (v' := .bool d4) rfl (congrArg Value.bool e4.symm) ?_
    (repeat' (first | refine J_seq ?_ | refine J_skip ?_ | refine J_yes rfl ?_ | refine J_no rfl ?_))
    refine J_walk 44 [(0, true), (1, true), (2, true), (3, true), (4, true), (5, true), (6, true), (7, true), (8, true), (9, true), (10, true), (11, true), (12, true), (13, true), (14, true), (15, true), (16, true), (17, true), (18, true), (19, true), (20, true), (21, true), (22, true), (23, true), (24, true), (25, true), (26, true), (27, true), (28, true), (29, true), (30, true), (31, true), (32, true), (33, true), (34, true), (35, true), (36, true), (37, true), (38, true), (39, true), (40, true), (41, true), (42, true), (43, true)] [0, 3, 4] (by kernel_rfl) (by decide) rfl ?_
    have hq : IntKind.i64.wrap ((k : Int) + 1) = ((k + 1 : Nat) : Int) := w64 (by omega)
    clear e1 e2 e3 e4 f1 f2 f3 f4
    cases d1 <;> cases d2 <;> cases d3 <;> cases d4
    all_goals
      refine JW_run [1, 5, 7, 12, 22, 24, 28, 30, 35] rfl ?_
      (try (
        refine JW_still [1, 5, 7, 12] rfl (OpV_blk (v := .slice (some ⟨gf, 0, none⟩) f.length cf) 1 rfl rfl rfl rfl) rfl ?_
        refine JW_run [1, 5, 7, 12] rfl ?_
        refine JW_still [1, 5, 7, 12] rfl (idx1z rfl rfl rfl rfl rfl (by omega)) rfl ?_
        refine JW_still [1, 5, 7, 12] rfl (OpV_own 2 rfl rfl rfl (readT_int hx)) rfl ?_
        refine JW_run [1, 5, 7, 12] rfl ?_
        refine JW_still [1, 5, 7, 12] rfl (OpV_blk (v := .int .i64 a.cap) 0 rfl rfl rfl rfl) rfl ?_
        refine JW_run [1, 5, 7, 12] rfl ?_
        refine JW_set 105 (v' := .bool false) rfl (congrArg Value.bool (cdec_no (hfull (by simp)))) ?_
        refine JW_run [1, 5, 7, 12, 22, 24, 28, 30, 35] rfl ?_))
      (try (
        refine JW_still [1, 5, 7, 12, 22, 24, 28, 30, 35] rfl (OpV_blk (v := .slice (some ⟨gf, 0, none⟩) f.length cf) 1 rfl rfl rfl rfl) rfl ?_
        refine JW_run [1, 5, 7, 12, 22, 24, 28, 30, 35] rfl ?_
        refine JW_still [1, 5, 7, 12, 22, 24, 28, 30, 35] rfl (idx1z rfl rfl rfl rfl rfl (by omega)) rfl ?_
        refine JW_still [1, 5, 7, 12, 22, 24, 28, 30, 35] rfl (OpV_own 2 rfl rfl rfl (readT_int hx)) rfl ?_
        refine JW_run [1, 5, 7, 12, 22, 24, 28, 30, 35] rfl ?_
        refine JW_set 126 (v' := .bool false) rfl (congrArg Value.bool (cdec_no (hempty (by simp)))) ?_))
      refine JW_nil ?_
      refine JL_nil ?_
      (repeat' (first | refine J_seq ?_ | refine J_skip ?_ | refine J_yes rfl ?_ | refine J_no rfl ?_))
      (repeat' (first | refine J_seq ?_ | refine J_skip ?_ | refine J_yes rfl ?_ | refine J_no rfl ?_))
      refine J_region ?_
      refine JL_all [] rfl ?_
      exact ⟨k + 1, ⟨congrArg some (congrArg (Value.int .i64) hq), rfl, rfl, rfl, rfl, trivial⟩, Fit.picks [1, 2, 3, 4, 5, 6] (by decide) rfl, hkl, by show N.arcs.length - (k + 1) < N.arcs.length - k; omega⟩
  · obtain rfl : k = N.arcs.length := by omega
    obtain ⟨z, hzl⟩ : ∃ z : List Int, z = List.replicate N.arcs.length 0 := ⟨_, rfl⟩
    (repeat' (first | refine J_seq ?_ | refine J_skip ?_ | refine J_yes rfl ?_ | refine J_no rfl ?_))
    refine J_region ?_
    refine JL_val [] (v := netV N A1 cn) (OpV_blk 4 rfl rfl rfl rfl) rfl ?_
    refine JL_run [] rfl ?_
    refine JL_callR [] (cutarcs_fn N hF hR A1 cn g1 0 hA1' sa hca (by omega) Aa ca ga 0 hAa') rfl rfl rfl rfl (by kernel_rfl) ⟨⟨5, _, by simp, rfl, shows_ownS hA1, seen_ownS hA1⟩, ⟨1, _, by simp, rfl, shows_ownS hAa, seen_ownS hAa⟩, trivial⟩ (fun _ => rfl) ?_
    rintro _ H' ⟨Ax, cx, rfl, rfl⟩
    refine ⟨rfl, ?_⟩
    refine JL_all [] rfl ?_
    have hcx := cap_cross N sa N.arcs.length (Nat.le_refl _)
    rw [List.take_of_length_le (Nat.le_refl _)] at hcx
    (repeat' (first | refine J_seq ?_ | refine J_skip ?_ | refine J_yes rfl ?_ | refine J_no rfl ?_))
    refine J_walk 18 [(0, true), (1, true), (2, true), (3, true), (4, true), (5, true), (6, true), (7, true), (8, true), (9, true), (10, true), (12, true), (11, false), (13, false), (14, true), (15, true), (16, true), (17, true)] [1, 2, 3, 4, 5, 6] (by kernel_rfl) (by decide) rfl ?_
    refine JW_evO (gs := []) rfl rfl ?_
    refine JW_evO (gs := []) rfl rfl ?_
    refine JW_evO (gs := []) rfl rfl ?_
    refine JW_set 135 (v' := .bool true) rfl (congrArg Value.bool (cdec_yes rfl)) ?_
    refine JW_run [2] rfl ?_
    by_cases h0 : (crossK N sa N.arcs.length).length = 0
    · have hc0 : capZ sa N.arcs = 0 := by
        rw [List.length_eq_zero_iff.1 h0] at hcx
        exact hcx.symm
      refine JW_set 139 (v' := .bool false) rfl (congrArg Value.bool (cdec_no (by omega))) ?_
      refine JW_still [2, 6] rfl (OpV_blk (v := netV N A1 cn) 4 rfl rfl rfl rfl) rfl ?_
      refine JW_run [2, 6] rfl ?_
      refine JW_still [2, 6] rfl (OpV_blk (v := .slice A1 N.arcs.length cn) 4 rfl rfl rfl rfl) rfl ?_
      refine JW_run [2, 6] rfl ?_
      have hl2 := hR.len
      refine JW_eff rfl ?_
      refine JL_makeG [2, 6] (n := N.arcs.length) (c := N.arcs.length) rfl rfl rfl rfl rfl rfl (by omega) (by omega) (by omega) (fun _ => rfl) fun gz => ?_
      rw [show made [Value.int .i64 0] (N.arcs.length * 1) = ints (List.replicate N.arcs.length 0) by rw [made_one, Nat.mul_one]; simp [ints]]
      refine JL_nil ⟨⟨[2, 3, 4, 5, 6, 7], by decide, rfl⟩, ?_⟩
      refine JW_eff rfl ?_
      refine JL_callR [2, 6] (prove_fn N hF hR A1 cn g1 0 hA1' (List.replicate N.arcs.length 0) hz (some ⟨gz, 0, none⟩) N.arcs.length gz 0 (fun _ => rfl) sa hca (by omega) Aa ca ga 0 hAa') rfl rfl rfl (by rw [List.length_replicate]; rfl) (by kernel_rfl) ⟨⟨7, _, by simp, rfl, shows_ownS hA1, seen_ownS hA1⟩, ⟨0, _, by simp, rfl, shows_own, seen_ownS (fun _ => rfl)⟩, ⟨3, _, by simp, rfl, shows_ownS hAa, seen_ownS hAa⟩, trivial⟩ (fun _ => rfl) ?_
      rintro _ H' ⟨rfl, rfl⟩
      rw [if_pos (by rw [hc0]; exact exZ_noughts N.arcs N.snk)]
      refine ⟨rfl, JL_nil ⟨⟨[2, 3, 4, 5, 6, 7], by decide, rfl⟩, ?_⟩⟩
      refine JW_all [2, 6] rfl ?_
      refine JL_nil ?_
      exact J_ret ⟨_, rfl, congrArg Value.bool (cdec_yes rfl)⟩
    · refine JW_set 139 (v' := .bool true) rfl (congrArg Value.bool (cdec_yes (by omega))) ?_
      refine JW_run [2, 6] rfl ?_
      refine JW_eff rfl ?_
      refine JL_evO (gs := [2, 6]) rfl ?_
      refine JL_nil ⟨⟨[1, 2, 3, 4, 5, 6], by decide, rfl⟩, ?_⟩
      refine JW_eff rfl ?_
      refine JL_evO (gs := [2, 6]) rfl ?_
      refine JL_nil ⟨⟨[1, 2, 3, 4, 5, 6], by decide, rfl⟩, ?_⟩
      refine JW_all [2, 6] rfl ?_
      refine JL_nil ?_
      exact J_ret ⟨_, rfl, rfl⟩
end Go.Proofs.Ytjbcgjahfalkaaa
