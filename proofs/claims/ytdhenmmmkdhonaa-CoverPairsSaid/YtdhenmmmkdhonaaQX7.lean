/- The engine and the words that all chapters share: several texts in one. -/
import Derived.Test.YtdhenmmmkdhonaaQF
import Derived.Test.YtdhenmmmkdhonaaQB
import Derived.Test.YtdhenmmmkdhonaaQX3

/- Networks turned, and the greatest cut of a flow. -/
set_option linter.unusedVariables false
set_option linter.unusedSimpArgs false
namespace Go.Proofs.Ytdhenmmmkdhonaa
open Go.RowKit
end Go.Proofs.Ytdhenmmmkdhonaa


/- The least and the greatest cut of a flow that no track leads on, in plain terms. -/
set_option linter.unusedVariables false
set_option linter.unusedSimpArgs false
namespace Go.Proofs.Ytdhenmmmkdhonaa
open Go.RowKit
def Closed (N : Net) (f : List Int) (s : List Int) : Prop:=∀ r,r < 2 * N.arcs.length → 1 ≤ (roomL (N.arcs.zip f)).getD r 0 → (endsZ N r).1 ∈ s → (endsZ N r).2 ∈ s
open Classical in
noncomputable def slackL (s : List Int) (ps : List (Arc × Int)) : List Int:=ps.map fun p=>(if p.1.fr ∈ s ∧ p.1.to ∉ s then p.1.cap - p.2 else 0) + (if p.1.fr ∉ s ∧ p.1.to ∈ s then p.2 else 0)
theorem slack_sum (s : List Int) : ∀ ps : List (Arc × Int),(slackL s ps).sum = capZ s (ps.map (·.1)) - outIn s ps
  | []=>by simp [slackL,capZ,outIn]
  | p :: ps=>by
    have ih:=slack_sum s ps
    unfold slackL capZ outIn at *
    simp only [List.map_cons,List.sum_cons]
    by_cases h1 : p.1.fr ∈ s <;> by_cases h2 : p.1.to ∈ s <;> simp only [h1,h2,if_true,if_false,and_true,and_false,not_true,not_false_iff] <;> omega
theorem sum_nought : ∀ (l : List Int),(∀ x ∈ l,0 ≤ x) → (l.sum = 0 ↔ ∀ x ∈ l,x = 0)
  | [],_=>by simp
  | x :: l,h=>by
    have ih:=sum_nought l fun y hy=>h y (by simp [hy])
    have h0:=h x (by simp)
    have h1:=sum_nonneg l fun y hy=>h y (by simp [hy])
    rw [List.sum_cons]
    constructor
    · intro e y hy
      rcases List.mem_cons.1 hy with rfl | hy
      · omega
      · exact ih.1 (by omega) y hy
    · intro e
      have e1:=e x (by simp)
      have e2:=ih.2 fun y hy=>e y (by simp [hy])
      omega
theorem closed_slack {N : Net} {f s : List Int} (hf : Ranged N f) : Closed N f s ↔ ∀ x ∈ slackL s (N.arcs.zip f),x = 0:=by
  constructor
  · intro h x hx
    obtain ⟨p,hp,rfl⟩:=List.mem_map.1 hx
    obtain ⟨i,hi,hip⟩:=List.mem_iff_getElem.1 hp
    have hz : (N.arcs.zip f)[i]? = some p:=by rw [List.getElem?_eq_getElem hi,hip]
    have ha:=(List.getElem?_zip_eq_some.1 hz).1
    have hil:=(List.getElem?_eq_some_iff.1 ha).1
    obtain ⟨g1,g2⟩:=roomL_get hz
    have hr:=hf.all p hp
    have e1 : endsZ N (2 * i) = (p.1.fr,p.1.to):=by
      unfold endsZ; rw [show 2 * i / 2 = i by omega,ha]; show endsOf p.1 (2 * i) = _; unfold endsOf; rw [if_neg (by omega)]
    have e2 : endsZ N (2 * i + 1) = (p.1.to,p.1.fr):=by
      unfold endsZ; rw [show (2 * i + 1) / 2 = i by omega,ha]; show endsOf p.1 (2 * i + 1) = _; unfold endsOf; rw [if_pos (by omega)]
    have k1:=h (2 * i) (by omega)
    have k2:=h (2 * i + 1) (by omega)
    rw [e1,List.getD_eq_getElem?_getD,g1,Option.getD_some] at k1
    rw [e2,List.getD_eq_getElem?_getD,g2,Option.getD_some] at k2
    simp only at k1 k2
    have z1 : (if p.1.fr ∈ s ∧ p.1.to ∉ s then p.1.cap - p.2 else 0) = 0:=by
      split
      · rename_i hc
        have : ¬ 1 ≤ p.1.cap - p.2:=fun h1=>hc.2 (k1 h1 hc.1)
        omega
      · rfl
    have z2 : (if p.1.fr ∉ s ∧ p.1.to ∈ s then p.2 else 0) = 0:=by
      split
      · rename_i hc
        have : ¬ 1 ≤ p.2:=fun h1=>hc.1 (k2 h1 hc.2)
        omega
      · rfl
    rw [z1,z2]; rfl
  · intro h r hr h1 hin
    obtain ⟨a,ha⟩ : ∃ a,N.arcs[r / 2]? = some a:=⟨N.arcs[r / 2]'(by omega),List.getElem?_eq_getElem (by omega)⟩
    have hx : f[r / 2]? = some (f.getD (r / 2) 0):=by rw [List.getD_eq_getElem?_getD,List.getElem?_eq_getElem (by have:=hf.len; omega)]; rfl
    have hz:=zip_some ha hx
    have hzm:=List.mem_of_getElem? hz
    obtain ⟨g1,g2⟩:=roomL_get hz
    have hrg:=hf.all _ hzm
    have hs:=h _ (List.mem_map.2 ⟨_,hzm,rfl⟩)
    have he : endsZ N r = endsOf a r:=by unfold endsZ; rw [ha]
    rw [he] at hin ⊢
    simp only at g1 g2 hrg hs
    refine Classical.byContradiction fun hno=>?_
    by_cases hm : r % 2 = 1
    · have e : endsOf a r = (a.to,a.fr):=by unfold endsOf; rw [if_pos hm]
      rw [e] at hin hno
      simp only at hin hno
      rw [if_neg (fun hc=>hno hc.1),if_pos ⟨hno,hin⟩] at hs
      rw [show 2 * (r / 2) + 1 = r by omega] at g2
      rw [List.getD_eq_getElem?_getD,g2,Option.getD_some] at h1
      omega
    · have e : endsOf a r = (a.fr,a.to):=by unfold endsOf; rw [if_neg hm]
      rw [e] at hin hno
      simp only at hin hno
      rw [if_pos ⟨hin,hno⟩,if_neg (fun hc=>hc.1 hin)] at hs
      rw [show 2 * (r / 2) = r by omega] at g1
      rw [List.getD_eq_getElem?_getD,g1,Option.getD_some] at h1
      omega
theorem closed_cut {N : Net} (hR : N.Right) {f : List Int} (hf : IsFlow N f) {s : List Int} (hs : IsCut N s) : capZ s N.arcs = exZ (N.arcs.zip f) N.snk ↔ Closed N f s:=by
  rw [closed_slack hf.toRanged,← sum_nought,slack_sum,value_cut hR hf hs,show (N.arcs.zip f).map (·.1) = N.arcs from List.map_fst_zip (by have:=hf.len; omega)]
  · omega
  · intro x hx
    obtain ⟨p,hp,rfl⟩:=List.mem_map.1 hx
    have hr:=hf.all p hp
    split <;> split <;> omega
theorem where_rise (l : List Bool) (is : Bool) : ∀ k,(whereK l is k).Pairwise (· < ·)
  | 0=>by simp [whereK]
  | k + 1=>by
    rw [whereK_succ]
    split
    · refine rise_app (where_rise l is k) fun x hx=>?_
      obtain ⟨v,h1,_,_,rfl⟩:=mem_whereK.1 hx
      omega
    · rw [List.append_nil]; exact where_rise l is k
section
variable {N : Net} {f : List Int} {n : Nat} {l : List Bool}
theorem mem_first (hn : N.nodes = n) (hlr : ∀ v : Nat,l[v]? = some true ↔ v ≤ n ∧ Rch N (roomL (N.arcs.zip f)) 1 v) {x : Int} : x ∈ whereK l true (n + 1) ↔ 1 ≤ x ∧ x ≤ N.nodes ∧ Rch N (roomL (N.arcs.zip f)) 1 x:=by
  rw [mem_whereK]
  constructor
  · rintro ⟨v,h1,h2,h3,rfl⟩; exact ⟨by omega,by omega,((hlr v).1 h3).2⟩
  · rintro ⟨h1,h2,h3⟩
    have e : ((x.toNat : Nat) : Int) = x:=by omega
    exact ⟨x.toNat,by omega,by omega,(hlr _).2 ⟨by omega,by rw [e]; exact h3⟩,e.symm⟩
theorem first_cut (hR : N.Right) (hf : IsFlow N f) (hn : N.nodes = n) (hno : ¬ Rch N (roomL (N.arcs.zip f)) 1 N.snk) (hlr : ∀ v : Nat,l[v]? = some true ↔ v ≤ n ∧ Rch N (roomL (N.arcs.zip f)) 1 v) : IsCut N (whereK l true (n + 1)) ∧ Closed N f (whereK l true (n + 1)):=by
  have hsr:=hR.src
  refine ⟨⟨where_rise _ _ _,fun x hx=>?_,(mem_first hn hlr).2 ⟨hsr.1,hsr.2,.src⟩,fun h=>hno ((mem_first hn hlr).1 h).2.2⟩,fun r hr h1 hin=>?_⟩
  · have:=(mem_first hn hlr).1 hx; exact ⟨this.1,this.2.1⟩
  · have h2:=(mem_first hn hlr).1 hin
    have h3:=endsZ_in hR hr
    exact (mem_first hn hlr).2 ⟨h3.2.1,h3.2.2,.step _ r h2.2.2 (by rw [roomL_length,List.length_zip,hf.len,Nat.min_self]; exact hr) rfl h1⟩
end
theorem rise_eq : ∀ {l m : List Int},l.Pairwise (· < ·) → m.Pairwise (· < ·) → (∀ x,x ∈ l ↔ x ∈ m) → l = m
  | [],[],_,_,_=>rfl
  | [],y :: m,_,_,h=>by have:=(h y).2 (by simp); simp at this
  | x :: l,[],_,_,h=>by have:=(h x).1 (by simp); simp at this
  | x :: l,y :: m,hl,hm,h=>by
    obtain ⟨l1,l2⟩:=List.pairwise_cons.1 hl
    obtain ⟨m1,m2⟩:=List.pairwise_cons.1 hm
    have e : x = y:=by
      rcases List.mem_cons.1 ((h x).1 (by simp)) with e | e
      · exact e
      · rcases List.mem_cons.1 ((h y).2 (by simp)) with e2 | e2
        · exact e2.symm
        · have:=m1 x e; have:=l1 y e2; omega
    subst e
    congr 1
    refine rise_eq l2 m2 fun z=>⟨fun hz=>?_,fun hz=>?_⟩
    · rcases List.mem_cons.1 ((h z).1 (by simp [hz])) with e | e
      · have:=l1 z hz; omega
      · exact e
    · rcases List.mem_cons.1 ((h z).2 (by simp [hz])) with e | e
      · have:=m1 z hz; omega
      · exact e
theorem weak_cut {N : Net} (hR : N.Right) {f s : List Int} (hf : IsFlow N f) (hs : IsCut N s) : exZ (N.arcs.zip f) N.snk ≤ capZ s N.arcs:=by
  have h1:=slack_sum s (N.arcs.zip f)
  rw [← value_cut hR hf hs,show (N.arcs.zip f).map (·.1) = N.arcs from List.map_fst_zip (by have:=hf.len; omega)] at h1
  have h2:=sum_nonneg (slackL s (N.arcs.zip f)) fun x hx=>by
    obtain ⟨p,hp,rfl⟩:=List.mem_map.1 hx
    have hr:=hf.all p hp
    split <;> split <;> omega
  omega
theorem Net.Right.fits' {N : Net} (h : N.Right) : N.Fits:=by
  have h1:=h.nodes
  have h2:=h.src
  have h3:=h.snk
  have h4:=h.len
  refine ⟨by unfold inB; omega,by unfold inB; omega,by unfold inB; omega,by omega,fun a ha=>?_⟩
  have:=h.arc a ha
  have:=h.cap ha
  unfold inB
  omega
end Go.Proofs.Ytdhenmmmkdhonaa
