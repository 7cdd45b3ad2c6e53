/- Arguments that hold rows, opened into the engine's pieces. -/
import Derived.Test.YtdhenmmmkdhonaaQX9
import Derived.Test.YtdhenmmmkdhonaaQA
import Derived.SizedLaws
import Derived.ChangeSlices
import Derived.Deep.Slices
import Derived.Deep.Fields
import Derived.ChangeSame
import Derived.Lib.SmallJoins
import Derived.ShutString
import Derived.ChangeOld
set_option linter.unusedVariables false
set_option linter.unusedSimpArgs false
namespace Go.Proofs.Ytdhenmmmkdhonaa
open Go.RowKit Go.ChangeShapes Go.WideShapes Go.Deep Go.Joins
section
variable {H : Type} {enc : TypeId × Value → H} {P : Program} {w : World} {base : Nat} {spare : Nat → Bool} {held : Bool}
theorem sized_of {ts : List TypeId} {ds : List (DataW H)} (h : (DataW.weightsEach P ts ds).all (· ≤ reachBytes) = true) {j : Nat} {t : TypeId} {d : DataW H} (ht : ts[j]? = some t) (hd : ds[j]? = some d) : ∀ n ∈ d.weights P t,n ≤ reachBytes:=fun n hn=>by
  have:=List.all_eq_true.1 h n (DataW.weights_mem_each ht hd n hn)
  simpa using this
theorem at_none {a : Addr} {v : Value} (h : w.cell? a = some v) : a = ⟨a.block,a.off,none⟩:=by
  unfold World.cell? at h
  obtain ⟨b,o,s⟩:=a
  cases s with
  | none=>rfl
  | some q=>revert h; simp only [Option.isSome]; split <;> simp
theorem at_add (b o i : Nat) : (⟨b,o,none⟩ : Addr).add i = ⟨b,o + i,none⟩:=by
  unfold Addr.add
  split
  · rename_i h; subst h; rfl
  · rfl
theorem core_ints {t e : TypeId} {fuel : Nat} {cs : List Value} {x : DataW H × List MemPlace} (ht : P.underlying t = some (.slice e)) (he : P.underlying e = some (.int .i64)) (hC : P.cellsOf e = 1) (hB : P.bytesOf e = 8)
    (h : DataW.trod enc P w base spare held fuel t cs = some x) (hz : ∀ n ∈ x.1.weights P t,n ≤ reachBytes) :
    ∃ (A : Option Addr) (c b o : Nat) (l : List Int),cs = [.slice A l.length c] ∧ (l ≠ [] → A = some ⟨b,o,none⟩) ∧ (Chunk.seg b o (ints l)).holds w ∧ (∀ n ∈ l,inB n) ∧ l.length * 8 ≤ 140737488351232:=by
  rcases open_ints ht he hC h with ⟨rfl,rfl⟩ | ⟨a,len,cap,zs,rfl,_,hl,_,hlz,rfl,hcell,hwf⟩
  · exact ⟨none,0,0,0,[],rfl,fun h=>absurd rfl h,fun i v hv=>by simp [ints] at hv,fun n hn=>(List.not_mem_nil hn).elim,by simp⟩
  · have hle : len ≤ zs.length := by rw [hlz]; split; · exact hl
                                     · exact Nat.le_refl _
    have hlen : (zs.take len).length = len:=by rw [List.length_take]; omega
    refine ⟨some a,cap,a.block,a.off,zs.take len,by rw [hlen],fun hne=>?_,fun i v hv=>?_,fun n hn=>?_,?_⟩
    · have hpos : 0 < len := by
        rcases Nat.eq_zero_or_pos len with h0 | h0
        · exact absurd (by rw [h0]; rfl) hne
        · exact h0
      have:=hcell 0 (by omega)
      exact congrArg some (at_none (a:=a) (by simpa [Addr.add] using this))
    · simp only [ints,List.getElem?_map,Option.map_eq_some_iff] at hv
      obtain ⟨n,hn,rfl⟩:=hv
      have hi : i < len:=by have:=(List.getElem?_eq_some_iff.1 hn).1; omega
      have hn' : zs[i]? = some n:=by rw [List.getElem?_take] at hn; simpa [hi] using hn
      have h0:=hcell 0 (by omega)
      have ea:=at_none (a:=a) (by simpa [Addr.add] using h0)
      have:=hcell i (by omega)
      rw [ea,at_add] at this
      rw [this]
      simp [List.getD,hn']
    · have:=hwf n (List.mem_of_mem_take hn)
      exact inB_of this
    · have hw := hz ((zs.take len).length * 8 + (zs.drop len).length * 8) (by
        simp only [DataW.weights,ht,hB,lits,List.length_map,List.mem_cons]
        left
        rw [Nat.add_mul])
      have : reachBytes = 140737488351232:=by decide
      omega
theorem opn_ints {r : Reach} {b0 : Nat} {t e : TypeId} {v : Value} {d : DataW H} {p : List MemPlace} (ht : P.underlying t = some (.slice e)) (he : P.underlying e = some (.int .i64)) (hC : P.cellsOf e = 1) (hB : P.bytesOf e = 8) (hok : Value.okWide P w r b0 t v)
    (h : DataW.Trod enc P w base spare held t v d p) (hz : ∀ n ∈ d.weights P t,n ≤ reachBytes) :
    ∃ (A : Option Addr) (c b o : Nat) (l : List Int),v = .slice A l.length c ∧ (l ≠ [] → A = some ⟨b,o,none⟩) ∧ (Chunk.seg b o (ints l)).holds w ∧ (∀ n ∈ l,inB n) ∧ l.length * 8 ≤ 140737488351232:=by
  obtain ⟨a,n,c,rfl⟩:=okWide_slice ht hok
  obtain ⟨fuel,hf⟩:=h
  obtain ⟨A,c',b,o,l,h1,h2⟩:=core_ints ht he hC hB hf hz
  refine ⟨A,c',b,o,l,?_,h2⟩
  simpa [Value.cells] using h1
end
end Go.Proofs.Ytdhenmmmkdhonaa
