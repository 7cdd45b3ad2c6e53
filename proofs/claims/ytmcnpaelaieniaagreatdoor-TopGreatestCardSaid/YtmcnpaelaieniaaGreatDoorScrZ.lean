import Derived.Test.YtmcnpaelaieniaaGreatDoorQX85
/- A part of the proof; see NOTES.md. -/
set_option linter.unusedVariables false
set_option linter.unusedSimpArgs false
namespace Go.Proofs.YtmcnpaelaieniaaGreatDoor
open Go.RowKit
open Lib
def e9(x:Int):Prop:=0<=x/\x<=9
theorem e9.inB{x:Int}(h:e9 x):Proofs.YtmcnpaelaieniaaGreatDoor.dn x:=by unfold e9 at h;unfold Proofs.YtmcnpaelaieniaaGreatDoor.dn;omega
theorem aY{n:Int}(m:Int)(h:0<=m/\m<=9)(e:n=m):e9 n:=by rw[e];exact h
theorem BM(w:cN):e9 (dj w).2:=by
 unfold dj;simp only;by_cases h1:w.head?=some 45
 ·rw[if_pos h1,if_pos h1];split
  ·(first|exact aY 0 (by decide) rfl|exact aY 1 (by decide) rfl|exact aY 2 (by decide) rfl|exact aY 3 (by decide) rfl|exact aY 4 (by decide) rfl|exact aY 5 (by decide) rfl|exact aY 6 (by decide) rfl|exact aY 7 (by decide) rfl|exact aY 8 (by decide) rfl|exact aY 9 (by decide) rfl)
  ·split
   ·(first|exact aY 0 (by decide) rfl|exact aY 1 (by decide) rfl|exact aY 2 (by decide) rfl|exact aY 3 (by decide) rfl|exact aY 4 (by decide) rfl|exact aY 5 (by decide) rfl|exact aY 6 (by decide) rfl|exact aY 7 (by decide) rfl|exact aY 8 (by decide) rfl|exact aY 9 (by decide) rfl)
   ·(first|exact aY 0 (by decide) rfl|exact aY 1 (by decide) rfl|exact aY 2 (by decide) rfl|exact aY 3 (by decide) rfl|exact aY 4 (by decide) rfl|exact aY 5 (by decide) rfl|exact aY 6 (by decide) rfl|exact aY 7 (by decide) rfl|exact aY 8 (by decide) rfl|exact aY 9 (by decide) rfl)
 ·rw[if_neg h1,if_neg h1];split
  ·(first|exact aY 0 (by decide) rfl|exact aY 1 (by decide) rfl|exact aY 2 (by decide) rfl|exact aY 3 (by decide) rfl|exact aY 4 (by decide) rfl|exact aY 5 (by decide) rfl|exact aY 6 (by decide) rfl|exact aY 7 (by decide) rfl|exact aY 8 (by decide) rfl|exact aY 9 (by decide) rfl)
  ·split
   ·(first|exact aY 0 (by decide) rfl|exact aY 1 (by decide) rfl|exact aY 2 (by decide) rfl|exact aY 3 (by decide) rfl|exact aY 4 (by decide) rfl|exact aY 5 (by decide) rfl|exact aY 6 (by decide) rfl|exact aY 7 (by decide) rfl|exact aY 8 (by decide) rfl|exact aY 9 (by decide) rfl)
   ·(first|exact aY 0 (by decide) rfl|exact aY 1 (by decide) rfl|exact aY 2 (by decide) rfl|exact aY 3 (by decide) rfl|exact aY 4 (by decide) rfl|exact aY 5 (by decide) rfl|exact aY 6 (by decide) rfl|exact aY 7 (by decide) rfl|exact aY 8 (by decide) rfl|exact aY 9 (by decide) rfl)
theorem js:∀ ws:Ws,e9 (bn ws).2
 |[]=>by (first|exact aY 0 (by decide) rfl|exact aY 1 (by decide) rfl|exact aY 2 (by decide) rfl|exact aY 3 (by decide) rfl|exact aY 4 (by decide) rfl|exact aY 5 (by decide) rfl|exact aY 6 (by decide) rfl|exact aY 7 (by decide) rfl|exact aY 8 (by decide) rfl|exact aY 9 (by decide) rfl)
 |w::r=>by
  have h1:=BM w;have h2:=js r;unfold bn;split
  ·exact h1
  ·split
   ·exact h2
   ·(first|exact aY 0 (by decide) rfl|exact aY 1 (by decide) rfl|exact aY 2 (by decide) rfl|exact aY 3 (by decide) rfl|exact aY 4 (by decide) rfl|exact aY 5 (by decide) rfl|exact aY 6 (by decide) rfl|exact aY 7 (by decide) rfl|exact aY 8 (by decide) rfl|exact aY 9 (by decide) rfl)
theorem yh(r:Rd)(w:Ws):e9 (r.line w).2:=by
 have k2:e9 2:=by (first|exact aY 0 (by decide) rfl|exact aY 1 (by decide) rfl|exact aY 2 (by decide) rfl|exact aY 3 (by decide) rfl|exact aY 4 (by decide) rfl|exact aY 5 (by decide) rfl|exact aY 6 (by decide) rfl|exact aY 7 (by decide) rfl|exact aY 8 (by decide) rfl|exact aY 9 (by decide) rfl)
 have k0:e9 0:=by (first|exact aY 0 (by decide) rfl|exact aY 1 (by decide) rfl|exact aY 2 (by decide) rfl|exact aY 3 (by decide) rfl|exact aY 4 (by decide) rfl|exact aY 5 (by decide) rfl|exact aY 6 (by decide) rfl|exact aY 7 (by decide) rfl|exact aY 8 (by decide) rfl|exact aY 9 (by decide) rfl)
 unfold Rd.line;split
 ·exact k0
 ·split
  ·exact k0
  ·split
   ·unfold Rd.problem;split
    ·exact k2
    ·split
     ·exact js _
     ·split
      ·(first|exact aY 0 (by decide) rfl|exact aY 1 (by decide) rfl|exact aY 2 (by decide) rfl|exact aY 3 (by decide) rfl|exact aY 4 (by decide) rfl|exact aY 5 (by decide) rfl|exact aY 6 (by decide) rfl|exact aY 7 (by decide) rfl|exact aY 8 (by decide) rfl|exact aY 9 (by decide) rfl)
      ·exact k0
   ·split
    ·unfold Rd.end_;split
     ·exact k2
     ·split
      ·split
       ·exact k2
       ·split
        ·exact js _
        ·split
         ·(first|exact aY 0 (by decide) rfl|exact aY 1 (by decide) rfl|exact aY 2 (by decide) rfl|exact aY 3 (by decide) rfl|exact aY 4 (by decide) rfl|exact aY 5 (by decide) rfl|exact aY 6 (by decide) rfl|exact aY 7 (by decide) rfl|exact aY 8 (by decide) rfl|exact aY 9 (by decide) rfl)
         ·split
          ·(first|exact aY 0 (by decide) rfl|exact aY 1 (by decide) rfl|exact aY 2 (by decide) rfl|exact aY 3 (by decide) rfl|exact aY 4 (by decide) rfl|exact aY 5 (by decide) rfl|exact aY 6 (by decide) rfl|exact aY 7 (by decide) rfl|exact aY 8 (by decide) rfl|exact aY 9 (by decide) rfl)
          ·exact k0
      ·split
       ·split
        ·exact k2
        ·split
         ·exact js _
         ·split
          ·(first|exact aY 0 (by decide) rfl|exact aY 1 (by decide) rfl|exact aY 2 (by decide) rfl|exact aY 3 (by decide) rfl|exact aY 4 (by decide) rfl|exact aY 5 (by decide) rfl|exact aY 6 (by decide) rfl|exact aY 7 (by decide) rfl|exact aY 8 (by decide) rfl|exact aY 9 (by decide) rfl)
          ·split
           ·(first|exact aY 0 (by decide) rfl|exact aY 1 (by decide) rfl|exact aY 2 (by decide) rfl|exact aY 3 (by decide) rfl|exact aY 4 (by decide) rfl|exact aY 5 (by decide) rfl|exact aY 6 (by decide) rfl|exact aY 7 (by decide) rfl|exact aY 8 (by decide) rfl|exact aY 9 (by decide) rfl)
           ·exact k0
       ·exact k2
    ·split
     ·unfold Rd.arc;split
      ·exact k2
      ·split
       ·exact js _
       ·split
        ·(first|exact aY 0 (by decide) rfl|exact aY 1 (by decide) rfl|exact aY 2 (by decide) rfl|exact aY 3 (by decide) rfl|exact aY 4 (by decide) rfl|exact aY 5 (by decide) rfl|exact aY 6 (by decide) rfl|exact aY 7 (by decide) rfl|exact aY 8 (by decide) rfl|exact aY 9 (by decide) rfl)
        ·split
         ·(first|exact aY 0 (by decide) rfl|exact aY 1 (by decide) rfl|exact aY 2 (by decide) rfl|exact aY 3 (by decide) rfl|exact aY 4 (by decide) rfl|exact aY 5 (by decide) rfl|exact aY 6 (by decide) rfl|exact aY 7 (by decide) rfl|exact aY 8 (by decide) rfl|exact aY 9 (by decide) rfl)
         ·split
          ·(first|exact aY 0 (by decide) rfl|exact aY 1 (by decide) rfl|exact aY 2 (by decide) rfl|exact aY 3 (by decide) rfl|exact aY 4 (by decide) rfl|exact aY 5 (by decide) rfl|exact aY 6 (by decide) rfl|exact aY 7 (by decide) rfl|exact aY 8 (by decide) rfl|exact aY 9 (by decide) rfl)
          ·split
           ·(first|exact aY 0 (by decide) rfl|exact aY 1 (by decide) rfl|exact aY 2 (by decide) rfl|exact aY 3 (by decide) rfl|exact aY 4 (by decide) rfl|exact aY 5 (by decide) rfl|exact aY 6 (by decide) rfl|exact aY 7 (by decide) rfl|exact aY 8 (by decide) rfl|exact aY 9 (by decide) rfl)
           ·exact k0
     ·exact k2
theorem rU:∀ (ls:List cN) (r:Rd) (i:Nat),e9 (dY r i ls).2.2
 |[],_,_=>by unfold dY;(first|exact aY 0 (by decide) rfl|exact aY 1 (by decide) rfl|exact aY 2 (by decide) rfl|exact aY 3 (by decide) rfl|exact aY 4 (by decide) rfl|exact aY 5 (by decide) rfl|exact aY 6 (by decide) rfl|exact aY 7 (by decide) rfl|exact aY 8 (by decide) rfl|exact aY 9 (by decide) rfl)
 |x::ls,r,i=>by
  unfold dY;split
  ·exact yh _ _
  ·exact rU ls _ _
theorem vz(l:cN):e9 (bW l).2.2:=by
 unfold bW;split
 ·exact rU _ _ _
 ·split
  ·(first|exact aY 0 (by decide) rfl|exact aY 1 (by decide) rfl|exact aY 2 (by decide) rfl|exact aY 3 (by decide) rfl|exact aY 4 (by decide) rfl|exact aY 5 (by decide) rfl|exact aY 6 (by decide) rfl|exact aY 7 (by decide) rfl|exact aY 8 (by decide) rfl|exact aY 9 (by decide) rfl)
  ·split
   ·(first|exact aY 0 (by decide) rfl|exact aY 1 (by decide) rfl|exact aY 2 (by decide) rfl|exact aY 3 (by decide) rfl|exact aY 4 (by decide) rfl|exact aY 5 (by decide) rfl|exact aY 6 (by decide) rfl|exact aY 7 (by decide) rfl|exact aY 8 (by decide) rfl|exact aY 9 (by decide) rfl)
   ·(first|exact aY 0 (by decide) rfl|exact aY 1 (by decide) rfl|exact aY 2 (by decide) rfl|exact aY 3 (by decide) rfl|exact aY 4 (by decide) rfl|exact aY 5 (by decide) rfl|exact aY 6 (by decide) rfl|exact aY 7 (by decide) rfl|exact aY 8 (by decide) rfl|exact aY 9 (by decide) rfl)
theorem qP(q:dp)(l:LB):e9 (q.lack l):=by
 unfold dp.lack e9;split
 ·(first|exact aY 0 (by decide) rfl|exact aY 1 (by decide) rfl|exact aY 2 (by decide) rfl|exact aY 3 (by decide) rfl|exact aY 4 (by decide) rfl|exact aY 5 (by decide) rfl|exact aY 6 (by decide) rfl|exact aY 7 (by decide) rfl|exact aY 8 (by decide) rfl|exact aY 9 (by decide) rfl)
 ·split<;>(first|exact aY 0 (by decide) rfl|exact aY 1 (by decide) rfl|exact aY 2 (by decide) rfl|exact aY 3 (by decide) rfl|exact aY 4 (by decide) rfl|exact aY 5 (by decide) rfl|exact aY 6 (by decide) rfl|exact aY 7 (by decide) rfl|exact aY 8 (by decide) rfl|exact aY 9 (by decide) rfl)
theorem rr(N:aU)(f:LI):e9 (en N f):=by
 have:e9 (ft N f):=by
  unfold ft;split
  ·(first|exact aY 0 (by decide) rfl|exact aY 1 (by decide) rfl|exact aY 2 (by decide) rfl|exact aY 3 (by decide) rfl|exact aY 4 (by decide) rfl|exact aY 5 (by decide) rfl|exact aY 6 (by decide) rfl|exact aY 7 (by decide) rfl|exact aY 8 (by decide) rfl|exact aY 9 (by decide) rfl)
  ·split<;>(first|exact aY 0 (by decide) rfl|exact aY 1 (by decide) rfl|exact aY 2 (by decide) rfl|exact aY 3 (by decide) rfl|exact aY 4 (by decide) rfl|exact aY 5 (by decide) rfl|exact aY 6 (by decide) rfl|exact aY 7 (by decide) rfl|exact aY 8 (by decide) rfl|exact aY 9 (by decide) rfl)
 unfold en;split
 ·exact this
 ·split<;>(first|exact aY 0 (by decide) rfl|exact aY 1 (by decide) rfl|exact aY 2 (by decide) rfl|exact aY 3 (by decide) rfl|exact aY 4 (by decide) rfl|exact aY 5 (by decide) rfl|exact aY 6 (by decide) rfl|exact aY 7 (by decide) rfl|exact aY 8 (by decide) rfl|exact aY 9 (by decide) rfl)
theorem Ca(N:aU)(s:LI):e9 (nQ N s):=by
 unfold nQ;split
 ·(first|exact aY 0 (by decide) rfl|exact aY 1 (by decide) rfl|exact aY 2 (by decide) rfl|exact aY 3 (by decide) rfl|exact aY 4 (by decide) rfl|exact aY 5 (by decide) rfl|exact aY 6 (by decide) rfl|exact aY 7 (by decide) rfl|exact aY 8 (by decide) rfl|exact aY 9 (by decide) rfl)
 ·split<;>(first|exact aY 0 (by decide) rfl|exact aY 1 (by decide) rfl|exact aY 2 (by decide) rfl|exact aY 3 (by decide) rfl|exact aY 4 (by decide) rfl|exact aY 5 (by decide) rfl|exact aY 6 (by decide) rfl|exact aY 7 (by decide) rfl|exact aY 8 (by decide) rfl|exact aY 9 (by decide) rfl)
theorem xV(N:aU)(f s:LI):e9 (oI N f s):=by
 unfold oI;split
 ·split
  ·split<;>(first|exact aY 0 (by decide) rfl|exact aY 1 (by decide) rfl|exact aY 2 (by decide) rfl|exact aY 3 (by decide) rfl|exact aY 4 (by decide) rfl|exact aY 5 (by decide) rfl|exact aY 6 (by decide) rfl|exact aY 7 (by decide) rfl|exact aY 8 (by decide) rfl|exact aY 9 (by decide) rfl)
  ·exact Ca _ _
 ·exact rr _ _
theorem Bi(N:aU)(its:List It):e9 (l5 N its):=by
 unfold l5;split
 ·(first|exact aY 0 (by decide) rfl|exact aY 1 (by decide) rfl|exact aY 2 (by decide) rfl|exact aY 3 (by decide) rfl|exact aY 4 (by decide) rfl|exact aY 5 (by decide) rfl|exact aY 6 (by decide) rfl|exact aY 7 (by decide) rfl|exact aY 8 (by decide) rfl|exact aY 9 (by decide) rfl)
 ·split<;>(first|exact aY 0 (by decide) rfl|exact aY 1 (by decide) rfl|exact aY 2 (by decide) rfl|exact aY 3 (by decide) rfl|exact aY 4 (by decide) rfl|exact aY 5 (by decide) rfl|exact aY 6 (by decide) rfl|exact aY 7 (by decide) rfl|exact aY 8 (by decide) rfl|exact aY 9 (by decide) rfl)
theorem dp.check_code(q:dp):e9 q.checkZ:=by
 unfold dp.checkZ;split
 ·exact qP _ _
 ·exact xV _ _ _
theorem dp.items_code(q:dp):e9 q.itemsZ.2:=by
 unfold dp.itemsZ;split
 ·exact qP _ _
 ·split
  ·(first|exact aY 0 (by decide) rfl|exact aY 1 (by decide) rfl|exact aY 2 (by decide) rfl|exact aY 3 (by decide) rfl|exact aY 4 (by decide) rfl|exact aY 5 (by decide) rfl|exact aY 6 (by decide) rfl|exact aY 7 (by decide) rfl|exact aY 8 (by decide) rfl|exact aY 9 (by decide) rfl)
  ·exact rr _ _
def sz(o:List cN):Nat:=(o.map λ s=>s.length+1).sum
theorem Dw{e:Int}(h:e9 e):(fF td [e]).length<=30:=by
 have:=ef td [e] λ n hn=>by rw[Gy.1 hn];exact h.inB
 simp only[td,Gz,GQ] at this ⊢;omega
theorem CH(w:cN)(hw:w.length<=10){n:Int}(h:dn n):(fF w [n]).length<=31:=by
 have:=ef w [n] λ m hm=>by rw[Gy.1 hm];exact h
 simp only[Gz,GQ] at this ⊢;omega
theorem yU{N:aU}(hR:N.Right):(iM N).length<=1000000:=by
 have hF:=hR.fits4;have hHl:=Ap N hF;have hAl:=AI N hF N.arcs λ a h=>h;have:=hR.len;unfold iM;rw[Gx];omega
theorem dp.items_len{q:dp}(hq:q.OK):(∀ x∈q.itemsZ.1,jp q.N x)/\q.itemsZ.1.length<=2001/\(Proofs.YtmcnpaelaieniaaGreatDoor.cY q.N q.itemsZ.1).length<=85000000:=by
 by_cases c:q.lack [false]≠0\/¬ aK q.N q.f
 ·have e:q.itemsZ.1=[]:=by
   unfold dp.itemsZ;split
   ·rfl
   ·rename_i h;rw[if_neg (c.resolve_left h)]
  rw[e];exact⟨λ x hx=>absurd hx GP,GB _,by simp[Proofs.YtmcnpaelaieniaaGreatDoor.cY]⟩
 ·obtain⟨c1,c2⟩:=not_or.1 c;have hf:=GK.1 c2;have hR:=hq.net (nf (GK.1 c1))
  have e:q.itemsZ.1=mz q.N q.f:=by
   unfold dp.itemsZ;rw[if_neg c1,if_pos hf]
  rw[e];obtain⟨h1,h2⟩:=Cp hR hf;have h3:=Proofs.YtmcnpaelaieniaaGreatDoor.nM hR h2;exact⟨h2,h1,by omega⟩
end Go.Proofs.YtmcnpaelaieniaaGreatDoor
