
import Derived.Test.YtbhfbpeldcnpfaaData
namespace Go.Proofs.Ytbhfbpeldcnpfaa
open Go.RowKit

def exStep (l : List Int) (a : Arc) (f : Int) : List Int :=
  let l1 := l.set a.fr.toNat (IntKind.i64.wrap (l.getD a.fr.toNat 0 - f))
  l1.set a.to.toNat (IntKind.i64.wrap (l1.getD a.to.toNat 0 + f))
def exc (n : Nat) (al : List Arc) (fs : List Int) : List Int := (al.zip fs).foldl (fun l p => exStep l p.1 p.2) (List.replicate (n + 1) 0)

theorem exStep_length (l : List Int) (a : Arc) (f : Int) : (exStep l a f).length = l.length := by simp [exStep]
theorem exc_length (n : Nat) (al : List Arc) (fs : List Int) : (exc n al fs).length = n + 1 := by
  unfold exc
  have : ∀ (ps : List (Arc × Int)) (l : List Int), (ps.foldl (fun l p => exStep l p.1 p.2) l).length = l.length := by
    intro ps
    induction ps with
    | nil => intro l; rfl
    | cons p ps ih => intro l; simp [ih, exStep_length]
  rw [this]; simp
theorem exc_succ (n : Nat) {al : List Arc} {fs : List Int} {k : Nat} {a : Arc} {f : Int} (ha : al[k]? = some a) (hf : fs[k]? = some f) : exc n (al.take (k + 1)) fs = exStep (exc n (al.take k) fs) a f := by
  have h1 : al.take (k + 1) = al.take k ++ [a] := by
    obtain ⟨h, rfl⟩ := List.getElem?_eq_some_iff.1 ha
    rw [List.take_succ_eq_append_getElem h]
  have hk : (al.take k).length = k := by
    obtain ⟨h, _⟩ := List.getElem?_eq_some_iff.1 ha
    simp; omega
  have h2 : fs = fs.take k ++ f :: fs.drop (k + 1) := by
    obtain ⟨h, rfl⟩ := List.getElem?_eq_some_iff.1 hf
    simp
  have hk2 : (fs.take k).length = k := by
    obtain ⟨h, _⟩ := List.getElem?_eq_some_iff.1 hf
    simp; omega
  unfold exc
  rw [h1]
  conv => lhs; rw [h2]
  conv => rhs; rw [h2]
  rw [List.zip_append (by rw [hk, hk2]), List.foldl_append]
  have : (al.take k).zip (fs.take k ++ f :: fs.drop (k + 1)) = (al.take k).zip (fs.take k) := by
    conv => lhs; rw [← List.append_nil (al.take k)]
    rw [List.zip_append (by rw [hk, hk2])]; simp
  rw [this]
  simp

theorem excesses_fn (n : Nat) (src snk : Int) (A F : Option Addr) (ca cf ba oa bf of : Nat) (al : List Arc) (fs : List Int) (hn : n ≤ 500) (hA : al ≠ [] → A = some ⟨ba, oa, none⟩) (hF : al ≠ [] → F = some ⟨bf, of, none⟩)
    (hl : fs.length = al.length) (hlen : al.length ≤ 2000) (hin : ∀ a ∈ al, 0 ≤ a.fr ∧ a.fr ≤ n ∧ 0 ≤ a.to ∧ a.to ≤ n) :
    Fn 55 [.agg #[.int .i64 n, .int .i64 src, .int .i64 snk, .slice A al.length ca], .slice F al.length cf] [] [.seg ba oa (arcs al), .seg bf of (ints fs)]
      (fun v H' => ∃ g, v = .slice (some ⟨g, 0, none⟩) (n + 1) (n + 1) ∧ H' = [.own v 2 1 (n + 1) (ints (exc n al fs))]) := by
  refine Fn_of Try.func55 rfl rfl fun w0 => ?_
  refine J_seq (J_region ?_)
  refine JL_box rfl rfl rfl (fun _ => rfl) fun b1 => ?_
  refine JL_all [] rfl ?_
  refine J_seq (J_region ?_)
  refine JL_run [] rfl ?_
  refine JL_val [] (OpV_blk 0 rfl rfl rfl rfl) rfl ?_
  refine JL_run [] rfl ?_
  rw [w64 (n := (n : Int) + 1) (by omega)]
  refine JL_make (n := n + 1) (c := n + 1) rfl rfl rfl rfl rfl rfl (by omega) (by omega) (by omega) (fun _ => rfl) fun g => ?_
  refine JL_all [] rfl ?_
  refine J_seq (J_seq (J_region ?_))
  refine JL_run [] rfl ?_
  refine JL_val [] (OpV_blk 1 rfl rfl rfl rfl) rfl ?_
  refine JL_all [] rfl ?_
  rw [made_ints]
  refine J_block ?_
  refine J_loop (σ := Nat) (fun k => [(15, .int .i64 k), (14, .int .i64 al.length), (13, .slice A al.length ca), (5, .slice (some ⟨g, 0, none⟩) (n + 1) (n + 1)), (1, .slice F al.length cf)])
    (fun k => [.own (.slice (some ⟨g, 0, none⟩) (n + 1) (n + 1)) 2 1 (n + 1) (ints (exc n (al.take k) fs)), .seg ba oa (arcs al), .seg bf of (ints fs)]) (fun k => k ≤ al.length) (fun k => al.length - k)
    0 [0, 2, 3] ⟨rfl, rfl, rfl, rfl, rfl, trivial⟩ (by decide) (by rw [List.take_zero]; rfl) (Nat.zero_le _) fun k hk => ?_
  refine J_seq (J_region (JL_all [] rfl ?_))
  refine J_seq (J_dec rfl (fun hlt => J_skip ?_) (fun hge => J_exit ?_))
  · have hlt : k < al.length := by omega
    have hne : al ≠ [] := by rintro rfl; simp at hlt
    obtain rfl := hA hne
    obtain rfl := hF hne
    refine J_seq (J_block (J_seq (J_region ?_)))
    refine JL_run [] rfl ?_
    refine JL_val [] (idxN rfl rfl rfl rfl rfl hlt) rfl ?_
    obtain ⟨⟨fr, to, cap⟩, ha⟩ : ∃ a, al[k]? = some a := ⟨al[k], List.getElem?_eq_getElem hlt⟩
    obtain ⟨f, hf⟩ : ∃ f, fs[k]? = some f := ⟨fs[k], List.getElem?_eq_getElem (by omega)⟩
    obtain ⟨h1, h2, h3, h4⟩ := hin _ (List.mem_of_getElem? ha)
    simp only at h1 h2 h3 h4
    obtain ⟨fr, rfl⟩ := Int.eq_ofNat_of_zero_le h1
    obtain ⟨to, rfl⟩ := Int.eq_ofNat_of_zero_le h3
    refine JL_val [] (ldseg 1 rfl rfl rfl rfl (readT_arc ha)) rfl ?_
    refine JL_alloc rfl rfl rfl (fun _ => rfl) fun b2 => ?_
    refine JL_run [] rfl ?_
    refine JL_store 0 rfl rfl rfl rfl rfl [] rfl ?_
    refine JL_nil ?_
    refine J_seq (J_still 11 (by kernel_rfl) ?_)
    refine JS_run [] rfl ?_
    refine JS_val [] (OpV_blk 0 rfl rfl rfl rfl) rfl ?_
    have hel := exc_length n (al.take k) fs
    obtain ⟨x, hx⟩ : ∃ x, (exc n (al.take k) fs)[fr]? = some x := ⟨_, List.getElem?_eq_getElem (by omega)⟩
    refine JS_val [] (idx1z rfl rfl rfl rfl rfl (by omega)) rfl ?_
    refine JS_val [] (OpV_own 1 rfl rfl rfl (readT_int hx)) rfl ?_
    refine JS_run [] rfl ?_
    refine JS_val [] (idx1 rfl rfl rfl rfl rfl hlt) rfl ?_
    refine JS_val [] (ldseg 3 rfl rfl rfl rfl (readT_int hf)) rfl ?_
    refine JS_run [] rfl ?_
    refine JS_val [] (idx1z rfl rfl rfl rfl rfl (by omega)) rfl ?_
    refine JS_nil ?_
    refine JL_store_own 1 rfl rfl rfl rfl (put_ints rfl (by omega)) [] rfl ?_
    refine JL_nil ?_
    refine J_still 11 (by kernel_rfl) ?_
    obtain ⟨y, hy⟩ : ∃ y, ((exc n (al.take k) fs).set fr (IntKind.i64.wrap (x - f)))[to]? = some y := ⟨_, List.getElem?_eq_getElem (by simp; omega)⟩
    refine JS_run [] rfl ?_
    refine JS_val [] (OpV_blk 0 rfl rfl rfl rfl) rfl ?_
    refine JS_val [] (idx1z rfl rfl rfl rfl rfl (by omega)) rfl ?_
    refine JS_val [] (OpV_own 1 rfl rfl rfl (readT_int hy)) rfl ?_
    refine JS_run [] rfl ?_
    refine JS_val [] (idx1 rfl rfl rfl rfl rfl hlt) rfl ?_
    refine JS_val [] (ldseg 3 rfl rfl rfl rfl (readT_int hf)) rfl ?_
    refine JS_run [] rfl ?_
    refine JS_val [] (idx1z rfl rfl rfl rfl rfl (by omega)) rfl ?_
    refine JS_nil ?_
    refine JL_store_own 1 rfl rfl rfl rfl (put_ints rfl (by simp; omega)) [] rfl ?_
    refine JL_nil ?_
    refine J_region (JL_all [] rfl ?_)
    refine ⟨k + 1, [1, 2, 3], ⟨?_, rfl, rfl, rfl, rfl, trivial⟩, by decide, ?_, by omega, by omega⟩
    · show some (Value.int .i64 (IntKind.i64.wrap ((k : Int) + 1))) = _
      rw [w64 (by omega)]; rfl
    · rw [exc_succ n ha hf]
      have e : exStep (exc n (al.take k) fs) ⟨fr, to, cap⟩ f = ((exc n (al.take k) fs).set fr (IntKind.i64.wrap (x - f))).set to (IntKind.i64.wrap (y + f)) := by
        simp only [exStep, Int.toNat_natCast, List.getD_eq_getElem?_getD, hx, Option.getD_some, hy]
      rw [e]; rfl
  · refine J_seq (J_region (JL_all [] rfl ?_))
    refine J_drop [0] (by decide) rfl (J_ret ?_)
    have hk' : k = al.length := by omega
    subst hk'
    exact ⟨_, rfl, g, rfl, by rw [List.take_length]; rfl⟩
end Go.Proofs.Ytbhfbpeldcnpfaa
