/- The engine, its seventh part: calls, and the other operations. -/
import Derived.Test.YtbhfbpeldcnpfaaEngE
namespace Go.Proofs.Ytbhfbpeldcnpfaa
open Go.RowKit
variable {X : Cx} {Q : Post} {E E' : Env} {H : Heap}

/-- A function that is entered. -/
noncomputable def callable (f : FuncId) : Bool := match Try.prog.funcs[f]? with
  | some fn => !(fn.name == "runtime.NumGoroutine") && fn.body.isSome
  | none => false
theorem callFunc_run {f : FuncId} (h : callable f = true) (args : Array Value) (w : World) : (callFunc f args).run Try.prog w = .ok (.enter f args) w := by
  unfold callable at h
  split at h
  · rename_i fn hf
    simp only [Bool.and_eq_true, Bool.not_eq_true'] at h
    have hb : fn.body ≠ none := by intro hx; rw [hx] at h; simp at h
    have h2 : ¬ fn.name = "runtime.NumGoroutine" := by have := h.1; simpa using this
    simp [callFunc, program, Sem.run, hf, h2, hb]
  · cases h

/-- A piece that may be read is seen in a piece of 'H'. -/
def Seen (H : Heap) (ix : List Nat) : Heap → Prop
  | [] => True
  | .seg b off vs :: S => (∃ k c, k ∉ ix ∧ H[k]? = some c ∧ c.shows b off vs ∧ (vs = [] ∨ c.at_ = some b)) ∧ Seen H ix S
  | _ => False
theorem Seen.holds {ix : List Nat} {w : World} : ∀ {S : Heap}, Seen H ix S → (∀ c ∈ H, c.holds w) → ∀ s ∈ S, s.holds w
  | [], _, _, s, hs => by cases hs
  | .seg b off vs :: S, h, hH, s, hs => by
    obtain ⟨⟨k, c, _, hk, hc, _⟩, hS⟩ := h
    rcases List.mem_cons.1 hs with rfl | hs
    · exact hc w (hH c (List.mem_of_getElem? hk))
    · exact Seen.holds hS hH s hs
  | .obj .. :: _, h, _, _, _ => h.elim
  | .own .. :: _, h, _, _, _ => h.elim
theorem Seen.apart {ix : List Nat} (hd : H.Pairwise apart) : ∀ {S : Heap}, Seen H ix S → ∀ s ∈ S, s.mine = none ∧ ∀ i ∈ ix, ∀ c, H[i]? = some c → Proofs.Ytbhfbpeldcnpfaa.apart s c
  | [], _, s, hs => by cases hs
  | .seg b off vs :: S, h, s, hs => by
    obtain ⟨⟨k, c, hki, hk, _, hat⟩, hS⟩ := h
    rcases List.mem_cons.1 hs with rfl | hs
    · refine ⟨rfl, fun i hi d hd' => ⟨fun b' hb' => by simp [Chunk.mine] at hb', fun b' hb' h2 => ?_⟩⟩
      have hap := apart_of_get hd hk hd' (fun e => hki (e ▸ hi))
      simp only [Chunk.at_] at h2
      split at h2
      · cases h2
      · rename_i hne
        simp only [Option.some.injEq] at h2
        subst h2
        rcases hat with hat | hat
        · exact hne hat
        · exact hap.2 _ hb' hat
    · exact Seen.apart hd hS s hs
  | .obj .. :: _, h, _, _ => h.elim
  | .own .. :: _, h, _, _ => h.elim
def noSeg : Heap → Bool
  | [] => true
  | .seg .. :: _ => false
  | _ :: l => noSeg l
theorem noSeg_spec : ∀ {H : Heap}, noSeg H = true → ∀ c ∈ H, c.mine = c.at_
  | [], _, c, hc => by cases hc
  | .seg .. :: _, h, _, _ => by simp [noSeg] at h
  | .obj b o :: l, h, c, hc => by
    rcases List.mem_cons.1 hc with rfl | hc
    · rfl
    · exact noSeg_spec (H := l) h c hc
  | .own .. :: l, h, c, hc => by
    rcases List.mem_cons.1 hc with rfl | hc
    · rfl
    · exact noSeg_spec (H := l) h c hc

/-- What a callee may be handed. -/
theorem Has.hand {w0 w : World} {M : List Nat} (hH : Has w0 M w H) {ix : List Nat} {S C : Heap} {Mc : List Nat} (hS : Seen H ix S) (hix : ix.Nodup) (hC : Proofs.Ytbhfbpeldcnpfaa.picks H ix = some C) (hM : ∀ c ∈ C, ∀ b, c.mine = some b → b ∈ Mc) : Has w Mc w (S ++ C) := by
  refine ⟨rfl, rfl, rfl, Nat.le_refl _, fun _ _ _ => rfl, fun c hc => ?_, fun c hc b hb => ?_, ?_⟩
  · rcases List.mem_append.1 hc with hc | hc
    · exact hS.holds hH.holds c hc
    · obtain ⟨i, _, hi⟩ := picks_mem hC c hc; exact hH.holds c (List.mem_of_getElem? hi)
  · rcases List.mem_append.1 hc with hc | hc
    · have := (hS.apart hH.dis c hc).1; rw [this] at hb; cases hb
    · exact .inr (hM c hc b hb)
  · refine List.pairwise_append.2 ⟨?_, picks_pairwise hH.dis hix hC, fun s hs c hc => ?_⟩
    · rw [List.pairwise_iff_getElem]
      intro i j hi hj _
      have h1 := (hS.apart hH.dis _ (List.getElem_mem hi)).1
      have h2 := (hS.apart hH.dis _ (List.getElem_mem hj)).1
      refine ⟨fun b hb => ?_, fun b hb => ?_⟩
      · rw [h1] at hb; simp at hb
      · rw [h2] at hb; simp at hb
    · obtain ⟨i, hi, hic⟩ := picks_mem hC c hc
      exact (hS.apart hH.dis s hs).2 i hi c hic
/-- What stands behind a call. -/
theorem Has.back {w0 w w' : World} {M : List Nat} (hH : Has w0 M w H) {ix rest : List Nat} {C K H' : Heap} {Mc : List Nat} (hC : Proofs.Ytbhfbpeldcnpfaa.picks H ix = some C) (hM2 : ∀ b ∈ Mc, ∃ c ∈ C, c.mine = some b)
    (hr : Proofs.Ytbhfbpeldcnpfaa.picks H rest = some K) (hrn : rest.Nodup) (hdis : ∀ i ∈ rest, i ∉ ix) (h' : Has w Mc w' H') (hn : noSeg H' = true) : Has w0 M w' (H' ++ K) := by
  have hback : ∀ b ∈ Mc, ∃ i ∈ ix, ∃ c, H[i]? = some c ∧ c.mine = some b := by
    intro b hb
    obtain ⟨c, hc, hcb⟩ := hM2 b hb
    obtain ⟨i, hi, hic⟩ := picks_mem hC c hc
    exact ⟨i, hi, c, hic, hcb⟩
  have hrest : ∀ d ∈ K, ∀ b, d.at_ = some b → b < w.heap.size ∧ b ∉ Mc := by
    intro d hd b hb
    obtain ⟨j, hj, hjd⟩ := picks_mem hr d hd
    refine ⟨Chunk.at_lt (hH.holds d (List.mem_of_getElem? hjd)) hb, fun hbM => ?_⟩
    obtain ⟨i, hi, c, hic, hcb⟩ := hback b hbM
    exact (apart_of_get hH.dis hic hjd (fun e => hdis j hj (e ▸ hi))).1 b hcb hb
  refine ⟨h'.os.trans hH.os, h'.tape.trans hH.tape, h'.output.trans hH.output, Nat.le_trans hH.size h'.size, fun k hk hkM => ?_, fun c hc => ?_, fun c hc b hb => ?_, ?_⟩
  · have hkw := Nat.lt_of_lt_of_le hk hH.size
    have : k ∉ Mc := by
      intro hkc
      obtain ⟨i, _, c, hic, hcb⟩ := hback k hkc
      rcases hH.own c (List.mem_of_getElem? hic) k hcb with h1 | h1
      · omega
      · exact hkM h1
    exact (h'.keep k hkw this).trans (hH.keep k hk hkM)
  · rcases List.mem_append.1 hc with hc | hc
    · exact h'.holds c hc
    · obtain ⟨j, _, hjd⟩ := picks_mem hr c hc
      exact Chunk.holds_of (hH.holds c (List.mem_of_getElem? hjd)) fun b hb => h'.keep b (hrest c hc b hb).1 (hrest c hc b hb).2
  · rcases List.mem_append.1 hc with hc | hc
    · rcases h'.own c hc b hb with h1 | h1
      · exact .inl (Nat.le_trans hH.size h1)
      · obtain ⟨i, _, d, hid, hdb⟩ := hback b h1
        exact hH.own d (List.mem_of_getElem? hid) b hdb
    · obtain ⟨j, _, hjd⟩ := picks_mem hr c hc
      exact hH.own c (List.mem_of_getElem? hjd) b hb
  · refine List.pairwise_append.2 ⟨h'.dis, picks_pairwise hH.dis hrn hr, fun c hc d hd => ?_⟩
    have hcm := noSeg_spec hn c hc
    have key : ∀ b, c.at_ = some b → d.at_ ≠ some b := by
      intro b hb hdb
      rw [← hcm] at hb
      obtain ⟨h1, h2⟩ := hrest d hd b hdb
      rcases h'.own c hc b hb with h3 | h3
      · omega
      · exact h2 h3
    exact ⟨fun b hb => key b (Chunk.mine_at hb), fun b hb h2 => key b h2 (Chunk.mine_at hb)⟩

/-- A call of a function value that is known. -/
theorem call_run {o : Oper} {f : Operand} {args : Array Operand} {ts : Array TypeId} {g : FuncId} {fst cap vs : List Value} {n : FrC} {a : Act} (hA : Agr n a E) (ho : o.op = .call ⟨.value f, args, ts⟩)
    (hf : val E f = some (.func (.func g) fst.toArray cap.toArray)) (ha : vals E args.toList = some vs) (hc : callable g = true) (w : World) :
    (execOp a.eval o).run Try.prog w = .ok (.enter g (fst ++ vs ++ cap).toArray) w := by
  have e1 : args.map a.eval = vs.toArray := by rw [← hA.vals _ _ ha]; exact Array.ext' (by simp)
  simp [execOp, ho, resolve, Deferred.ofValue, invoke, hA.val hf, e1, callFunc_run hc]
theorem JL_call {F : Value → Env} {ops l : List Oper} {o : Oper} {f : Operand} {args : Array Operand} {ts : Array TypeId} {g : FuncId} {fst cap vs args' : List Value} {R : Value → Heap → Prop} {S C K : Heap} {Mc : List Nat} (ix rest : List Nat) (gs : List Nat)
    (T : Fn g args' Mc (S ++ C) R) (ho : o.op = .call ⟨.value f, args, ts⟩) (hf : val E f = some (.func (.func g) fst.toArray cap.toArray)) (ha : vals E args.toList = some vs) (has : fst ++ vs ++ cap = args') (hc : callable g = true)
    (hS : Seen H ix S) (hix : ix.Nodup) (hC : picks H ix = some C) (hM : ∀ c ∈ C, ∀ b, c.mine = some b → b ∈ Mc) (hM2 : ∀ b ∈ Mc, ∃ c ∈ C, c.mine = some b)
    (hr : picks H rest = some K) (hrn : rest.Nodup) (hdis : ∀ i ∈ rest, i ∉ ix) (hb : ∀ v, bef X.n ops gs E o v = some (F v)) (h : ∀ v H', R v H' → noSeg H' = true ∧ JL X ops l Q (F v) (H' ++ K)) : JL X ops (o :: l) Q E H := by
  intro a w hA hH
  have hg := (bef_spec (hb undef)).1
  unfold wpList
  rw [if_pos (gd_wanted hA hg)]
  left
  show o.upon _ a _ _ ((execOp a.eval o).run _ w)
  rw [call_run hA ho hf ha hc w, has]
  refine (T w (hH.hand hS hix hC hM)).mono ?_
  rintro e w' ⟨v, H', rfl, h1, h2⟩
  obtain ⟨h3, h4⟩ := h v H' h2
  exact h4 _ _ (hA.putE (bef_spec (hb v)).2) (hH.back hC hM2 hr hrn hdis h1 h3)
theorem picks_range (H : Heap) : picks H (List.range H.length) = some H := by
  have key : ∀ (K : Heap) (i : Nat), (∀ j, H[i + j]? = K[j]?) → picks H (List.range' i K.length) = some K := by
    intro K
    induction K with
    | nil => intro i _; rfl
    | cons c K ih =>
      intro i hi
      have h0 : H[i]? = some c := by simpa using hi 0
      rw [List.length_cons, List.range'_succ]
      unfold picks
      rw [h0, ih (i + 1) (fun j => by have := hi (j + 1); simpa [Nat.add_assoc, Nat.add_comm 1] using this)]
  rw [List.range_eq_range']
  exact key H 0 (fun j => by simp)
/-- A call that only reads what is old. -/
theorem JL_callR {F : Value → Env} {ops l : List Oper} {o : Oper} {f : Operand} {args : Array Operand} {ts : Array TypeId} {g : FuncId} {fst cap vs args' : List Value} {R : Value → Heap → Prop} {S : Heap} (gs : List Nat)
    (T : Fn g args' [] S R) (ho : o.op = .call ⟨.value f, args, ts⟩) (hf : val E f = some (.func (.func g) fst.toArray cap.toArray)) (ha : vals E args.toList = some vs) (has : fst ++ vs ++ cap = args') (hc : callable g = true)
    (hS : Seen H [] S) (hb : ∀ v, bef X.n ops gs E o v = some (F v)) (h : ∀ v H', R v H' → noSeg H' = true ∧ JL X ops l Q (F v) (H' ++ H)) : JL X ops (o :: l) Q E H :=
  JL_call (C := []) (K := H) [] (List.range H.length) gs (by simpa using T) ho hf ha has hc hS List.nodup_nil rfl (fun c hc => by cases hc) (fun b hb => by cases hb) (picks_range H) List.nodup_range (fun _ _ h => by cases h) hb h
/-- The same in a region that draws: the answer is known. -/
theorem JQ_callR {ops l : List Oper} {o : Oper} {f : Operand} {args : Array Operand} {ts : Array TypeId} {g : FuncId} {fst cap vs args' : List Value} {v : Value} {S : Heap} {K : Env → Prop} (gs : List Nat)
    (T : Fn g args' [] S (fun u _ => u = v)) (ho : o.op = .call ⟨.value f, args, ts⟩) (hf : val E f = some (.func (.func g) fst.toArray cap.toArray)) (ha : vals E args.toList = some vs) (has : fst ++ vs ++ cap = args') (hc : callable g = true)
    (hS : Seen H [] S) (hb : bef X.n ops gs E o v = some E') (h : JQ X ops l H K E') : JQ X ops (o :: l) H K E := by
  intro a hA
  obtain ⟨hg, hp⟩ := bef_spec hb
  unfold wpQuiet
  rw [if_pos (gd_wanted hA hg)]
  refine ⟨v, fun w hw => ?_, h _ (hA.putE hp)⟩
  unfold Oper.quietAt
  rw [call_run hA ho hf ha hc w, has]
  refine ⟨rfl, (T w (by simpa using hw.hand (C := []) hS List.nodup_nil rfl (fun c hc => by cases hc))).mono ?_⟩
  rintro e w' ⟨u, H', rfl, h1, rfl⟩
  refine ⟨rfl, ?_⟩
  have h2 : Has w [] w' [] := h1.mono (fun c hc => by cases hc) List.Pairwise.nil
  have := hw.back (ix := []) (C := []) (K := H) (Mc := []) (H' := []) rfl (fun b hb => by cases hb) (picks_range H) List.nodup_range (fun _ _ h => by cases h) h2 rfl
  simpa using this
end Go.Proofs.Ytbhfbpeldcnpfaa
