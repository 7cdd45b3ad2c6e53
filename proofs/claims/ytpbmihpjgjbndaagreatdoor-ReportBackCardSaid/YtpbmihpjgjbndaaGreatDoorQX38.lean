/- The engine and the words that all chapters share: several texts in one. -/
import Derived.Test.YtpbmihpjgjbndaaGreatDoorQX46
import Derived.Test.YtpbmihpjgjbndaaGreatDoorQF
import Derived.Test.YtpbmihpjgjbndaaGreatDoorQX27
import Derived.Test.YtpbmihpjgjbndaaGreatDoorQB
/- The first room of the halves. -/
set_option linter.unusedVariables false
set_option linter.unusedSimpArgs false
namespace Go.Proofs.YtpbmihpjgjbndaaGreatDoor
open Go.RowKit
theorem mi:∀ {l:List dH},(∀ a∈l,0≤a.cap)→∀ {a:dH},a∈l→a.cap≤(l.map (·.cap)).sum
 |[],_,_,h=>by simp at h
 |b::l,hp,a,h=>by
  have h0:=hp b (by simp)
  have hs:0≤(l.map (·.cap)).sum:=eU _ fun x hx=>by
   obtain⟨d,hd,rfl⟩:=List.mem_map.1 hx
   exact hp d (by simp[hd])
  simp only[List.map_cons,List.sum_cons]
  rcases List.mem_cons.1 h with rfl|h
  ·omega
  ·have:=mi (fun d hd=>hp d (by simp[hd])) h
   omega
theorem wI {N:a8} (hR:N.Right) (k:Nat):0≤mI (N.arcs.take k)∧mI (N.arcs.take k)≤4611686018427387903:=by
 obtain⟨h1,h2,h3⟩:=mL (N.arcs.take k) 0 fun a ha=>(hR.arc a (List.mem_of_mem_take ha)).2.2
 refine⟨h1,?_⟩
 unfold mI
 rcases h3 with h|⟨a,ha,h⟩
 ·rw[h];decide
 ·rw[h]
  have hs:=hR.sum
  have:=mi (fun d hd=>(hR.arc d hd).2.2) (List.mem_of_mem_take ha)
  omega
end Go.Proofs.YtpbmihpjgjbndaaGreatDoor
/- The greatest value by halves: scale.Max. -/
set_option linter.unusedVariables false
set_option linter.unusedSimpArgs false
namespace Go.Proofs.YtpbmihpjgjbndaaGreatDoor
open Go.RowKit
def yN (t:nf):List Value:=[.int .i64 t.least,.int .i64 t.p,.int .i64 t.w,.int .i64 t.v]
def yX (ts:List nf):List Value:=ts.flatMap yN
theorem qR {x:Int} (h0:0≤x) (h1:x≤4611686018427387903):∃ nr,nr≤62∧lS x=eb nr 0∧(nr=0↔x=0):=by
 unfold lS
 by_cases h:x<1
 ·rw[if_pos h]
  exact⟨0,by decide,by rw[tI (Nat.le_refl _)],by simp;omega⟩
 ·rw[if_neg h]
  have hp:0<x.toNat:=by omega
  have h2:=qQ hp
  have h3:=uJ hp
  refine⟨jE x.toNat,?_,?_,?_⟩
  ·have:jE x.toNat-1<62:=(Nat.pow_lt_pow_iff_right (by decide:1<2)).1 (Nat.lt_of_le_of_lt h3 (by omega))
   omega
  ·unfold eb
   rw[if_pos (by omega),Nat.sub_zero]
  ·omega
end Go.Proofs.YtpbmihpjgjbndaaGreatDoor
/- Two rows that are the same. -/
set_option linter.unusedVariables false
set_option linter.unusedSimpArgs false
namespace Go.Proofs.YtpbmihpjgjbndaaGreatDoor
open Go.RowKit
theorem vQ (A:Option Addr) (c b o:Nat) (l:List Int) (hA:l≠[]→A=some ⟨b,o,none⟩) (hl:l.length≤100000) (A2:Option Addr) (c2 b2 o2:Nat) (l2:List Int) (hA2:l2≠[]→A2=some ⟨b2,o2,none⟩):
 Fn 18 [.slice A l.length c,.slice A2 l2.length c2] [] [.seg b o (ao l),.seg b2 o2 (ao l2)] fun u H'=>u=.bool (dj (l=l2))∧H'=[]:=by
 refine aS Tryz.func18 rfl rfl fun w0=>?_
 refine ad (aa (ae [] rfl ?_))
 refine ad (ad (aa (ae [] rfl ?_)))
 refine aD rfl (fun h=>?_) (fun h=>aw ?_)
 ·refine ad (aa (ae [] rfl ?_))
  refine aE [] (by decide) rfl (aB ⟨_,rfl,congrArg Value.bool (aA (fun e=>h (by rw[e]))).symm,rfl⟩)
 have hlen:l.length=l2.length:=by omega
 refine ad (ad (aa (ae [] rfl ?_)))
 refine au ?_
 refine bq (σ:=Nat) (fun k=>[(5,.int .i64 k),(0,.slice A l.length c),(1,.slice A2 l2.length c2)]) (fun k=>[.seg b o (ao l),.seg b2 o2 (ao l2)]) (fun k=>k≤l.length∧∀ j,j<k→l[j]?=l2[j]?) (fun k=>l.length-k)
  0 [0,1] ⟨rfl,rfl,rfl,trivial⟩ (by decide) rfl ⟨Nat.zero_le _,fun x hx=>by omega⟩ ?_
 rintro k ⟨hk,hall⟩
 refine ad (ad (aa (ae [] rfl ?_)))
 refine aD rfl (fun hlt=>aw ?_) (fun hge=>aX ?_)
 ·have hlt:k<l.length:=by omega
  obtain rfl:=hA (by rintro rfl;simp at hlt)
  obtain rfl:=hA2 (by intro h0;have h1:l2.length=0:=by rw[h0];rfl
                      omega)
  obtain⟨x,hx⟩:∃ x,l[k]?=some x:=⟨l[k],List.getElem?_eq_getElem hlt⟩
  obtain⟨y,hy⟩:∃ y,l2[k]?=some y:=⟨l2[k]'(by omega),List.getElem?_eq_getElem (by omega)⟩
  refine ad (au ?_)
  refine ad ?_
  refine bn 9 [(0,true),(1,true),(2,true),(3,true),(4,true),(5,true),(6,true),(7,true),(8,true)] [0,1] (by kernel_rfl) (by decide) rfl ?_
  refine aC [] rfl ?_
  refine aj [] rfl (fg rfl rfl rfl rfl rfl hlt) rfl ?_
  refine aj [] rfl (bo 0 rfl rfl rfl rfl (cj hx)) rfl ?_
  refine aC [] rfl ?_
  refine aj [] rfl (fg rfl rfl rfl rfl rfl (by omega)) rfl ?_
  refine aj [] rfl (bo 1 rfl rfl rfl rfl (cj hy)) rfl ?_
  refine dC [] rfl ?_
  refine ai ?_
  refine aD rfl (fun h=>?_) (fun h=>aw ?_)
  ·refine ad (aa (ae [] rfl ?_))
   refine aE [] (by decide) rfl (aB ⟨_,rfl,congrArg Value.bool (aA (fun e=>?_)).symm,rfl⟩)
   rw[e,hy] at hx
   exact h (Option.some.inj hx).symm
  ·skip
   refine aa (ae [] rfl ?_)
   refine⟨k+1,[0,1],⟨?_,rfl,rfl,trivial⟩,by decide,rfl,⟨by omega,fun j hj=>?_⟩,by omega⟩
   ·show some (Value.int .i64 (IntKind.i64.wrap ((k:Int)+1)))=_
    rw[b8 (by omega)];rfl
   ·by_cases e:j=k
    ·subst e;rw[hx,hy];exact congrArg some (Classical.not_not.1 h)
    ·exact hall j (by omega)
 ·refine ad (aa (ae [] rfl ?_))
  refine aE [] (by decide) rfl (aB ⟨_,rfl,congrArg Value.bool (az (List.ext_getElem? fun j=>?_)).symm,rfl⟩)
  by_cases hj:j<l.length
  ·exact hall j (by omega)
  ·rw[List.getElem?_eq_none (by omega),List.getElem?_eq_none (by omega)]
theorem a8.Right.fits2 {N:a8} (h:N.Right):N.Fits:=by
 have h1:=h.nodes
 have h2:=h.src
 have h3:=h.snk
 have h4:=h.len
 refine⟨by unfold bT;omega,by unfold bT;omega,by unfold bT;omega,by omega,fun a ha=>?_⟩
 have:=h.arc a ha
 have:=h.cap ha
 unfold bT
 omega
end Go.Proofs.YtpbmihpjgjbndaaGreatDoor
/- Chapter 13's example, step by step. -/
set_option linter.unusedVariables false
set_option linter.unusedSimpArgs false
namespace Go.Proofs.YtpbmihpjgjbndaaGreatDoor
open Go.RowKit
end Go.Proofs.YtpbmihpjgjbndaaGreatDoor
/- Chapter 13's networks of raw numbers. -/
set_option linter.unusedVariables false
set_option linter.unusedSimpArgs false
namespace Go.Proofs.YtpbmihpjgjbndaaGreatDoor
open Go.RowKit
end Go.Proofs.YtpbmihpjgjbndaaGreatDoor
/- What the laws of the halves need of turns. -/
set_option linter.unusedVariables false
set_option linter.unusedSimpArgs false
namespace Go.Proofs.YtpbmihpjgjbndaaGreatDoor
open Go.RowKit
end Go.Proofs.YtpbmihpjgjbndaaGreatDoor
