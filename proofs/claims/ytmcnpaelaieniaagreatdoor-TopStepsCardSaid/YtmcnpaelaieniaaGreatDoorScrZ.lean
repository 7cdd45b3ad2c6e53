import Derived.Test.YtmcnpaelaieniaaGreatDoorQX87
/- A part of the proof; see NOTES.md. -/
set_option linter.unusedVariables false
set_option linter.unusedSimpArgs false
namespace Go.Proofs.YtmcnpaelaieniaaGreatDoor
open Go.RowKit
open Lib
def e9(x:Int):Prop:=0<=x/\x<=9
theorem e9.inB{x:Int}(h:e9 x):Proofs.YtmcnpaelaieniaaGreatDoor.bU x:=by unfold e9 at h;unfold Proofs.YtmcnpaelaieniaaGreatDoor.bU;omega
theorem aU{n:Int}(m:Int)(h:0<=m/\m<=9)(e:n=m):e9 n:=by rw[e];exact h
theorem AG(w:cR):e9 (dp w).2:=by
 unfold dp;simp only;by_cases h1:w.head?=some 45
 ·rw[if_pos h1,if_pos h1];split
  ·(first|exact aU 0 (by decide) rfl|exact aU 1 (by decide) rfl|exact aU 2 (by decide) rfl|exact aU 3 (by decide) rfl|exact aU 4 (by decide) rfl|exact aU 5 (by decide) rfl|exact aU 6 (by decide) rfl|exact aU 7 (by decide) rfl|exact aU 8 (by decide) rfl|exact aU 9 (by decide) rfl)
  ·split
   ·(first|exact aU 0 (by decide) rfl|exact aU 1 (by decide) rfl|exact aU 2 (by decide) rfl|exact aU 3 (by decide) rfl|exact aU 4 (by decide) rfl|exact aU 5 (by decide) rfl|exact aU 6 (by decide) rfl|exact aU 7 (by decide) rfl|exact aU 8 (by decide) rfl|exact aU 9 (by decide) rfl)
   ·(first|exact aU 0 (by decide) rfl|exact aU 1 (by decide) rfl|exact aU 2 (by decide) rfl|exact aU 3 (by decide) rfl|exact aU 4 (by decide) rfl|exact aU 5 (by decide) rfl|exact aU 6 (by decide) rfl|exact aU 7 (by decide) rfl|exact aU 8 (by decide) rfl|exact aU 9 (by decide) rfl)
 ·rw[if_neg h1,if_neg h1];split
  ·(first|exact aU 0 (by decide) rfl|exact aU 1 (by decide) rfl|exact aU 2 (by decide) rfl|exact aU 3 (by decide) rfl|exact aU 4 (by decide) rfl|exact aU 5 (by decide) rfl|exact aU 6 (by decide) rfl|exact aU 7 (by decide) rfl|exact aU 8 (by decide) rfl|exact aU 9 (by decide) rfl)
  ·split
   ·(first|exact aU 0 (by decide) rfl|exact aU 1 (by decide) rfl|exact aU 2 (by decide) rfl|exact aU 3 (by decide) rfl|exact aU 4 (by decide) rfl|exact aU 5 (by decide) rfl|exact aU 6 (by decide) rfl|exact aU 7 (by decide) rfl|exact aU 8 (by decide) rfl|exact aU 9 (by decide) rfl)
   ·(first|exact aU 0 (by decide) rfl|exact aU 1 (by decide) rfl|exact aU 2 (by decide) rfl|exact aU 3 (by decide) rfl|exact aU 4 (by decide) rfl|exact aU 5 (by decide) rfl|exact aU 6 (by decide) rfl|exact aU 7 (by decide) rfl|exact aU 8 (by decide) rfl|exact aU 9 (by decide) rfl)
theorem jo:∀ ws:Ws,e9 (bo ws).2
 |[]=>by (first|exact aU 0 (by decide) rfl|exact aU 1 (by decide) rfl|exact aU 2 (by decide) rfl|exact aU 3 (by decide) rfl|exact aU 4 (by decide) rfl|exact aU 5 (by decide) rfl|exact aU 6 (by decide) rfl|exact aU 7 (by decide) rfl|exact aU 8 (by decide) rfl|exact aU 9 (by decide) rfl)
 |w::r=>by
  have h1:=AG w;have h2:=jo r;unfold bo;split
  ·exact h1
  ·split
   ·exact h2
   ·(first|exact aU 0 (by decide) rfl|exact aU 1 (by decide) rfl|exact aU 2 (by decide) rfl|exact aU 3 (by decide) rfl|exact aU 4 (by decide) rfl|exact aU 5 (by decide) rfl|exact aU 6 (by decide) rfl|exact aU 7 (by decide) rfl|exact aU 8 (by decide) rfl|exact aU 9 (by decide) rfl)
theorem yD(r:Rd)(w:Ws):e9 (r.line w).2:=by
 have k2:e9 2:=by (first|exact aU 0 (by decide) rfl|exact aU 1 (by decide) rfl|exact aU 2 (by decide) rfl|exact aU 3 (by decide) rfl|exact aU 4 (by decide) rfl|exact aU 5 (by decide) rfl|exact aU 6 (by decide) rfl|exact aU 7 (by decide) rfl|exact aU 8 (by decide) rfl|exact aU 9 (by decide) rfl)
 have k0:e9 0:=by (first|exact aU 0 (by decide) rfl|exact aU 1 (by decide) rfl|exact aU 2 (by decide) rfl|exact aU 3 (by decide) rfl|exact aU 4 (by decide) rfl|exact aU 5 (by decide) rfl|exact aU 6 (by decide) rfl|exact aU 7 (by decide) rfl|exact aU 8 (by decide) rfl|exact aU 9 (by decide) rfl)
 unfold Rd.line;split
 ·exact k0
 ·split
  ·exact k0
  ·split
   ·unfold Rd.problem;split
    ·exact k2
    ·split
     ·exact jo _
     ·split
      ·(first|exact aU 0 (by decide) rfl|exact aU 1 (by decide) rfl|exact aU 2 (by decide) rfl|exact aU 3 (by decide) rfl|exact aU 4 (by decide) rfl|exact aU 5 (by decide) rfl|exact aU 6 (by decide) rfl|exact aU 7 (by decide) rfl|exact aU 8 (by decide) rfl|exact aU 9 (by decide) rfl)
      ·exact k0
   ·split
    ·unfold Rd.end_;split
     ·exact k2
     ·split
      ·split
       ·exact k2
       ·split
        ·exact jo _
        ·split
         ·(first|exact aU 0 (by decide) rfl|exact aU 1 (by decide) rfl|exact aU 2 (by decide) rfl|exact aU 3 (by decide) rfl|exact aU 4 (by decide) rfl|exact aU 5 (by decide) rfl|exact aU 6 (by decide) rfl|exact aU 7 (by decide) rfl|exact aU 8 (by decide) rfl|exact aU 9 (by decide) rfl)
         ·split
          ·(first|exact aU 0 (by decide) rfl|exact aU 1 (by decide) rfl|exact aU 2 (by decide) rfl|exact aU 3 (by decide) rfl|exact aU 4 (by decide) rfl|exact aU 5 (by decide) rfl|exact aU 6 (by decide) rfl|exact aU 7 (by decide) rfl|exact aU 8 (by decide) rfl|exact aU 9 (by decide) rfl)
          ·exact k0
      ·split
       ·split
        ·exact k2
        ·split
         ·exact jo _
         ·split
          ·(first|exact aU 0 (by decide) rfl|exact aU 1 (by decide) rfl|exact aU 2 (by decide) rfl|exact aU 3 (by decide) rfl|exact aU 4 (by decide) rfl|exact aU 5 (by decide) rfl|exact aU 6 (by decide) rfl|exact aU 7 (by decide) rfl|exact aU 8 (by decide) rfl|exact aU 9 (by decide) rfl)
          ·split
           ·(first|exact aU 0 (by decide) rfl|exact aU 1 (by decide) rfl|exact aU 2 (by decide) rfl|exact aU 3 (by decide) rfl|exact aU 4 (by decide) rfl|exact aU 5 (by decide) rfl|exact aU 6 (by decide) rfl|exact aU 7 (by decide) rfl|exact aU 8 (by decide) rfl|exact aU 9 (by decide) rfl)
           ·exact k0
       ·exact k2
    ·split
     ·unfold Rd.arc;split
      ·exact k2
      ·split
       ·exact jo _
       ·split
        ·(first|exact aU 0 (by decide) rfl|exact aU 1 (by decide) rfl|exact aU 2 (by decide) rfl|exact aU 3 (by decide) rfl|exact aU 4 (by decide) rfl|exact aU 5 (by decide) rfl|exact aU 6 (by decide) rfl|exact aU 7 (by decide) rfl|exact aU 8 (by decide) rfl|exact aU 9 (by decide) rfl)
        ·split
         ·(first|exact aU 0 (by decide) rfl|exact aU 1 (by decide) rfl|exact aU 2 (by decide) rfl|exact aU 3 (by decide) rfl|exact aU 4 (by decide) rfl|exact aU 5 (by decide) rfl|exact aU 6 (by decide) rfl|exact aU 7 (by decide) rfl|exact aU 8 (by decide) rfl|exact aU 9 (by decide) rfl)
         ·split
          ·(first|exact aU 0 (by decide) rfl|exact aU 1 (by decide) rfl|exact aU 2 (by decide) rfl|exact aU 3 (by decide) rfl|exact aU 4 (by decide) rfl|exact aU 5 (by decide) rfl|exact aU 6 (by decide) rfl|exact aU 7 (by decide) rfl|exact aU 8 (by decide) rfl|exact aU 9 (by decide) rfl)
          ·split
           ·(first|exact aU 0 (by decide) rfl|exact aU 1 (by decide) rfl|exact aU 2 (by decide) rfl|exact aU 3 (by decide) rfl|exact aU 4 (by decide) rfl|exact aU 5 (by decide) rfl|exact aU 6 (by decide) rfl|exact aU 7 (by decide) rfl|exact aU 8 (by decide) rfl|exact aU 9 (by decide) rfl)
           ·exact k0
     ·exact k2
theorem qX:∀ (ls:List cR) (r:Rd) (i:Nat),e9 (dY r i ls).2.2
 |[],_,_=>by unfold dY;(first|exact aU 0 (by decide) rfl|exact aU 1 (by decide) rfl|exact aU 2 (by decide) rfl|exact aU 3 (by decide) rfl|exact aU 4 (by decide) rfl|exact aU 5 (by decide) rfl|exact aU 6 (by decide) rfl|exact aU 7 (by decide) rfl|exact aU 8 (by decide) rfl|exact aU 9 (by decide) rfl)
 |x::ls,r,i=>by
  unfold dY;split
  ·exact yD _ _
  ·exact qX ls _ _
theorem vE(l:cR):e9 (bW l).2.2:=by
 unfold bW;split
 ·exact qX _ _ _
 ·split
  ·(first|exact aU 0 (by decide) rfl|exact aU 1 (by decide) rfl|exact aU 2 (by decide) rfl|exact aU 3 (by decide) rfl|exact aU 4 (by decide) rfl|exact aU 5 (by decide) rfl|exact aU 6 (by decide) rfl|exact aU 7 (by decide) rfl|exact aU 8 (by decide) rfl|exact aU 9 (by decide) rfl)
  ·split
   ·(first|exact aU 0 (by decide) rfl|exact aU 1 (by decide) rfl|exact aU 2 (by decide) rfl|exact aU 3 (by decide) rfl|exact aU 4 (by decide) rfl|exact aU 5 (by decide) rfl|exact aU 6 (by decide) rfl|exact aU 7 (by decide) rfl|exact aU 8 (by decide) rfl|exact aU 9 (by decide) rfl)
   ·(first|exact aU 0 (by decide) rfl|exact aU 1 (by decide) rfl|exact aU 2 (by decide) rfl|exact aU 3 (by decide) rfl|exact aU 4 (by decide) rfl|exact aU 5 (by decide) rfl|exact aU 6 (by decide) rfl|exact aU 7 (by decide) rfl|exact aU 8 (by decide) rfl|exact aU 9 (by decide) rfl)
theorem rR(q:du)(l:LB):e9 (q.lack l):=by
 unfold du.lack e9;split
 ·(first|exact aU 0 (by decide) rfl|exact aU 1 (by decide) rfl|exact aU 2 (by decide) rfl|exact aU 3 (by decide) rfl|exact aU 4 (by decide) rfl|exact aU 5 (by decide) rfl|exact aU 6 (by decide) rfl|exact aU 7 (by decide) rfl|exact aU 8 (by decide) rfl|exact aU 9 (by decide) rfl)
 ·split<;>(first|exact aU 0 (by decide) rfl|exact aU 1 (by decide) rfl|exact aU 2 (by decide) rfl|exact aU 3 (by decide) rfl|exact aU 4 (by decide) rfl|exact aU 5 (by decide) rfl|exact aU 6 (by decide) rfl|exact aU 7 (by decide) rfl|exact aU 8 (by decide) rfl|exact aU 9 (by decide) rfl)
theorem ri(N:aO)(f:LI):e9 (el N f):=by
 have:e9 (fi N f):=by
  unfold fi;split
  ·(first|exact aU 0 (by decide) rfl|exact aU 1 (by decide) rfl|exact aU 2 (by decide) rfl|exact aU 3 (by decide) rfl|exact aU 4 (by decide) rfl|exact aU 5 (by decide) rfl|exact aU 6 (by decide) rfl|exact aU 7 (by decide) rfl|exact aU 8 (by decide) rfl|exact aU 9 (by decide) rfl)
  ·split<;>(first|exact aU 0 (by decide) rfl|exact aU 1 (by decide) rfl|exact aU 2 (by decide) rfl|exact aU 3 (by decide) rfl|exact aU 4 (by decide) rfl|exact aU 5 (by decide) rfl|exact aU 6 (by decide) rfl|exact aU 7 (by decide) rfl|exact aU 8 (by decide) rfl|exact aU 9 (by decide) rfl)
 unfold el;split
 ·exact this
 ·split<;>(first|exact aU 0 (by decide) rfl|exact aU 1 (by decide) rfl|exact aU 2 (by decide) rfl|exact aU 3 (by decide) rfl|exact aU 4 (by decide) rfl|exact aU 5 (by decide) rfl|exact aU 6 (by decide) rfl|exact aU 7 (by decide) rfl|exact aU 8 (by decide) rfl|exact aU 9 (by decide) rfl)
theorem Ap(N:aO)(s:LI):e9 (nQ N s):=by
 unfold nQ;split
 ·(first|exact aU 0 (by decide) rfl|exact aU 1 (by decide) rfl|exact aU 2 (by decide) rfl|exact aU 3 (by decide) rfl|exact aU 4 (by decide) rfl|exact aU 5 (by decide) rfl|exact aU 6 (by decide) rfl|exact aU 7 (by decide) rfl|exact aU 8 (by decide) rfl|exact aU 9 (by decide) rfl)
 ·split<;>(first|exact aU 0 (by decide) rfl|exact aU 1 (by decide) rfl|exact aU 2 (by decide) rfl|exact aU 3 (by decide) rfl|exact aU 4 (by decide) rfl|exact aU 5 (by decide) rfl|exact aU 6 (by decide) rfl|exact aU 7 (by decide) rfl|exact aU 8 (by decide) rfl|exact aU 9 (by decide) rfl)
theorem xP(N:aO)(f s:LI):e9 (ou N f s):=by
 unfold ou;split
 ·split
  ·split<;>(first|exact aU 0 (by decide) rfl|exact aU 1 (by decide) rfl|exact aU 2 (by decide) rfl|exact aU 3 (by decide) rfl|exact aU 4 (by decide) rfl|exact aU 5 (by decide) rfl|exact aU 6 (by decide) rfl|exact aU 7 (by decide) rfl|exact aU 8 (by decide) rfl|exact aU 9 (by decide) rfl)
  ·exact Ap _ _
 ·exact ri _ _
theorem BW(N:aO)(its:List It):e9 (mu N its):=by
 unfold mu;split
 ·(first|exact aU 0 (by decide) rfl|exact aU 1 (by decide) rfl|exact aU 2 (by decide) rfl|exact aU 3 (by decide) rfl|exact aU 4 (by decide) rfl|exact aU 5 (by decide) rfl|exact aU 6 (by decide) rfl|exact aU 7 (by decide) rfl|exact aU 8 (by decide) rfl|exact aU 9 (by decide) rfl)
 ·split<;>(first|exact aU 0 (by decide) rfl|exact aU 1 (by decide) rfl|exact aU 2 (by decide) rfl|exact aU 3 (by decide) rfl|exact aU 4 (by decide) rfl|exact aU 5 (by decide) rfl|exact aU 6 (by decide) rfl|exact aU 7 (by decide) rfl|exact aU 8 (by decide) rfl|exact aU 9 (by decide) rfl)
theorem du.check_code(q:du):e9 q.checkZ:=by
 unfold du.checkZ;split
 ·exact rR _ _
 ·exact xP _ _ _
theorem du.items_code(q:du):e9 q.itemsZ.2:=by
 unfold du.itemsZ;split
 ·exact rR _ _
 ·split
  ·(first|exact aU 0 (by decide) rfl|exact aU 1 (by decide) rfl|exact aU 2 (by decide) rfl|exact aU 3 (by decide) rfl|exact aU 4 (by decide) rfl|exact aU 5 (by decide) rfl|exact aU 6 (by decide) rfl|exact aU 7 (by decide) rfl|exact aU 8 (by decide) rfl|exact aU 9 (by decide) rfl)
  ·exact ri _ _
theorem Bq{N:aO}(hR:N.Right){p k:Nat}{f:LI}(h:Dn N 1 (List.replicate N.arcs.length 0) p k f):(k:Int)<=4611686018427387903/\(p:Int)<=4611686018427387903/\aK N f:=by
 obtain⟨h1,h2,h3,_⟩:=h.keeps hR (by decide) (fG N hR);have h4:=dN hR h1.toRanged N.snk;have h5:da (N.arcs.zip (List.replicate N.arcs.length 0)) N.snk=0:=kI N.arcs N.snk;rw[h5] at h2;exact⟨by omega,by omega,h1⟩
def sz(o:List cR):Nat:=(o.map λ s=>s.length+1).sum
theorem DY{e:Int}(h:e9 e):(fH sy [e]).length<=30:=by
 have:=ef sy [e] λ n hn=>by rw[GF.1 hn];exact h.inB
 simp only[sy,GG,GX] at this ⊢;omega
theorem CS(w:cR)(hw:w.length<=10){n:Int}(h:bU n):(fH w [n]).length<=31:=by
 have:=ef w [n] λ m hm=>by rw[GF.1 hm];exact h
 simp only[GG,GX] at this ⊢;omega
theorem xM{N:aO}(hR:N.Right):(iK N).length<=1000000:=by
 have hF:=hR.fits4;have hHl:=B7 N hF;have hAl:=B5 N hF N.arcs λ a h=>h;have:=hR.len;unfold iK;rw[GE];omega
theorem du.items_len{q:du}(hq:q.OK):(∀ x∈q.itemsZ.1,jw q.N x)/\q.itemsZ.1.length<=2001/\(Proofs.YtmcnpaelaieniaaGreatDoor.c9 q.N q.itemsZ.1).length<=85000000:=by
 by_cases c:q.lack [false]≠0\/¬ aK q.N q.f
 ·have e:q.itemsZ.1=[]:=by
   unfold du.itemsZ;split
   ·rfl
   ·rename_i h;rw[if_neg (c.resolve_left h)]
  rw[e];exact⟨λ x hx=>absurd hx GV,GI _,by simp[Proofs.YtmcnpaelaieniaaGreatDoor.c9]⟩
 ·obtain⟨c1,c2⟩:=not_or.1 c;have hf:=GQ.1 c2;have hR:=hq.net (mB (GQ.1 c1))
  have e:q.itemsZ.1=mn q.N q.f:=by
   unfold du.itemsZ;rw[if_neg c1,if_pos hf]
  rw[e];obtain⟨h1,h2⟩:=Cb hR hf;have h3:=Proofs.YtmcnpaelaieniaaGreatDoor.nU hR h2;exact⟨h2,h1,by omega⟩
end Go.Proofs.YtmcnpaelaieniaaGreatDoor
