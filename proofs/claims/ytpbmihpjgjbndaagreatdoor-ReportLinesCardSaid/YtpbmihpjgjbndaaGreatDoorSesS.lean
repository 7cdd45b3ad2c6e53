/- A session's Solve: what is found, by which engine, and what stays. -/
import Derived.Test.YtpbmihpjgjbndaaGreatDoorQX12
import Derived.Test.YtpbmihpjgjbndaaGreatDoorQX34
import Derived.Test.YtpbmihpjgjbndaaGreatDoorQX38
import Derived.Test.YtpbmihpjgjbndaaGreatDoorMatchP
set_option linter.unusedVariables false
set_option linter.unusedSimpArgs false
namespace Go.Proofs.YtpbmihpjgjbndaaGreatDoor
open Go.RowKit
def ry (N:a8) (sg:Int) (f:List Int):Prop:=
 ((sg=112∨sg=116)∧∃ p k:Nat,Dn N 1 (List.replicate N.arcs.length 0) p k f)∨
 (sg=115∧∃ (nr:Nat) (ts:List nA),nr≤62∧mf (mQ N.arcs)=eg nr 0∧(nr=0→∀ a∈N.arcs,a.cap=0)∧Sc N nr nr f ts)
theorem uY {N:a8} {f:List Int} (h:∀ r,r<(aM (N.arcs.zip f)).length→(aM (N.arcs.zip f)).getD r 0<1) {x:Int} (hx:nv N (aM (N.arcs.zip f)) 1 x):x=N.src:=by
 induction hx with
 |src=>rfl
 |step r q h1 h2 h3 h4 ih=>
  have:=h q h2
  omega
theorem Sc.max {N:a8} (hR:N.Right) {nr:Nat} {f:List Int} {ts:List nA} (h:Sc N nr nr f ts) (hcap:nr=0→∀ a∈N.arcs,a.cap=0):kb N f:=by
 obtain⟨_,hf,_,_,_,_,hlast⟩:=h.all hR
 refine⟨hf,?_⟩
 rcases Nat.eq_zero_or_pos nr with h0|h0
 ·intro hr
  refine hR.diff (uY (fun r hr=>?_) hr).symm
  rw[cv,List.length_zip,hf.len,Nat.min_self] at hr
  obtain⟨a,ha⟩:∃ a,N.arcs[r/2]?=some a:=⟨N.arcs[r/2],List.getElem?_eq_getElem (by omega)⟩
  obtain⟨x,hx⟩:∃ x,f[r/2]?=some x:=⟨f[r/2]'(by rw[hf.len];omega),List.getElem?_eq_getElem _⟩
  have hz:=eo ha hx
  obtain⟨g1,g2⟩:=cT hz
  have hr2:=hf.all _ (List.mem_of_getElem? hz)
  have hc:=hcap h0 a (List.mem_of_getElem? ha)
  simp only at g1 g2 hr2
  rcases Nat.mod_two_eq_zero_or_one r with e|e
  ·rw[show 2*(r/2)=r by omega] at g1
   rw[List.getD_eq_getElem?_getD,g1,Option.getD_some];omega
  ·rw[show 2*(r/2)+1=r by omega] at g2
   rw[List.getD_eq_getElem?_getD,g2,Option.getD_some];omega
 ·obtain⟨lv2,g1,g2⟩:=hlast h0
  obtain⟨j,rfl⟩:∃ j,nr=j+1:=⟨nr-1,by omega⟩
  rw[show j+1-1=j by omega,rq] at g1
  exact pD hf.toRanged g1 g2
theorem ry.max {N:a8} (hR:N.Right) {sg:Int} {f:List Int} (h:ry N sg f):kb N f:=by
 rcases h with ⟨_,p,k,hd⟩|⟨_,nr,ts,_,_,hc,hs⟩
 ·obtain⟨hf,_,_,lv,hlv,hlt⟩:=hd.keeps hR (by decide) (g9 _ hR)
  exact⟨hf,pD hf.toRanged hlv hlt⟩
 ·exact hs.max hR hc
theorem rooms {N:a8} (hR:N.Right):∃ nr,nr≤62∧mf (mQ N.arcs)=eg nr 0∧(nr=0→∀ a∈N.arcs,a.cap=0):=by
 have hb:=wi hR N.arcs.length
 rw[List.take_of_length_le (Nat.le_refl _)] at hb
 obtain⟨h1,h2,h3⟩:=mp N.arcs 0 fun a ha=>(hR.arc a ha).2.2
 change 0≤mQ N.arcs at h1
 change ∀ a∈N.arcs,a.cap≤mQ N.arcs at h2
 obtain⟨nr,g1,g2,g3⟩:=sd hb.1 (by omega)
 refine⟨nr,g1,g2,fun h0 a ha=>?_⟩
 have e:=g3.1 h0
 have:=h2 a ha
 have:=(hR.arc a ha).2.2
 omega
def rW (N:a8) (f s:List Int):Prop:=∃ (l:List Bool) (n:Nat),N.nodes=n∧l.length=n+1∧(∀ v:Nat,l[v]?=some true↔v≤n∧nv N (aM (N.arcs.zip f)) 1 v)∧s=bR l true (n+1)
theorem rW.cut {N:a8} (hR:N.Right) {f s:List Int} (hm:kb N f) (h:rW N f s):eq N s∧po N f s∧s.length≤501:=by
 obtain⟨l,n,h1,h2,h3,rfl⟩:=h
 have hc:=uf hR hm.1 h1 hm.2 h3
 have hl:=gK l true (n+1)
 have:=hR.nodes
 exact⟨hc.1,hc.2,by omega⟩
theorem fS {l:List dK} {A B:Option Addr} (h:arcs l≠[]→A=B) (hl:l≠[]):A=B:=h fun h0=>hl (List.length_eq_zero_iff.1 (by have:=qo l;rw[h0] at this;simp at this;omega))
theorem j9 {l:List Int} {A B:Option Addr} (h:ap l≠[]→A=B) (hl:l≠[]):A=B:=h fun h0=>hl (by simpa [ap] using h0)
end Go.Proofs.YtpbmihpjgjbndaaGreatDoor
