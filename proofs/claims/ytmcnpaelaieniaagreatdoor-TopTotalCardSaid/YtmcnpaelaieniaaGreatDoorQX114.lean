import Derived.Test.YtmcnpaelaieniaaGreatDoorQX125
/- A part of the proof. -/
set_option linter.unusedVariables false
set_option linter.unusedSimpArgs false
namespace Go.Proofs.YtmcnpaelaieniaaGreatDoor
open Go.RowKit
open Lib
theorem rD:∀ ws:Ws,(aJ ws).1.length<=ws.length
 |[]=>Nl _
 |w::r=>by
  have a:=rD r;unfold aJ;split
  ·exact Nl _
  ·split
   ·exact Nl _
   ·simp only[Nh];omega
theorem uv:∀ l:LI_,(d6 l).length<=l.length/2
 |[]=>Nl _
 |[_]=>Nl _
 |a::b::l=>by
  have:=uv l;unfold d6;simp only[Nh];omega
theorem vV:∀ {l:LI_},(∀ n∈l,b7 n)->∀ e∈d6 l,b7 e.l/\b7 e.r
 |[],_,e,he=>absurd he Nt
 |[_],_,e,he=>absurd he Nt
 |a::b::l,h,e,he=>by
  unfold d6 at he
  rcases Nn.1 he with rfl|he
  ·exact⟨h a ai,h b ai⟩
  ·exact vV (l:=l) (λ n c=>h n (by simp[c])) e he
theorem getD_in{l:LI_}(h:∀ n∈l,b7 n)(i:Nat):b7 (l.getD i 0):=by
 rw[Nf]
 cases a:l[i]? with
 |none=>unfold b7;show _<=(0:Int)/\(0:Int)<=_;omega
 |some x=>exact h x (Nb a)
theorem tT{l:LI_}(h:∀ n∈l,b7 n)(hl:l.length<=3000):(gh l).Fits:=by
 have:=uv (l.drop 2);rw[Oe] at this;exact⟨getD_in h 0,getD_in h 1,by show (d6 (l.drop 2)).length<=_;omega,vV λ n a=>h n (PN a)⟩
theorem jl.ok{q:du}(b:q.OK){sg:Int}{o:List cP}{d:du}(h:jl q sg o d):d.OK:=by
 unfold jl at h;split at h
 ·rw[h.1];exact b
 ·rename_i c;split at h
  ·obtain⟨f,s,e,g,rfl,_⟩:=h;have i:=iT (No.1 c);have a:=b.net i;have hm:=e.max a;have j:=g.cut a hm;have hl:=a.len;have m:=a.nodes;have k:=hm.1.len;exact⟨λ _=>a,aD.inB a hm.1.toRanged,λ x l=>by have:=j.1.rng x l;unfold b7;omega,by show f.length<=_;omega,by show s.length<=_;omega⟩
  ·rw[h.1];exact b
theorem nC.ok{q:du}(a:q.OK){l:LI_}(hi:∀ x∈l,b7 x)(hl:l.length<=100000){o:List cP}{b:du}(h:nC q l o b):b.OK:=by
 unfold nC at h;split at h
 ·rw[h.1];exact a
 ·split at h
  ·rw[h.1];exact a
  ·rw[h.1];exact⟨a.net,hi,a.sin,hl,a.slen⟩
theorem pL.ok{q:du}(a:q.OK){l:LI_}(hi:∀ x∈l,b7 x)(hl:l.length<=100000){o:List cP}{b:du}(h:pL q l o b):b.OK:=by
 unfold pL at h;split at h
 ·rw[h.1];exact a
 ·rw[h.1];exact⟨a.net,a.fin,hi,a.flen,hl⟩
theorem fU.ok{q:du}(a:q.OK){t w:cP}{o:List cP}{b:du}{t1:cP}(h:fU q t w o b t1):b.OK:=by
 unfold fU at h;split at h
 ·obtain⟨_,⟨_,rfl,_⟩|⟨c,rfl,_⟩⟩:=h
  ·exact a
  ·exact⟨λ _=>(sK c).1,λ _ h=>absurd h Nt,λ _ h=>absurd h Nt,Nl _,Nl _⟩
 ·rw[h.1];exact a
theorem th.ok{q:du}(a:q.OK){t line w:cP}{ws:Ws}(hl:ws.length<=3000){o:List cP}{b:du}{t1:cP}(h:th q t line w ws o b t1):b.OK:=by
 have c:=rD ws;unfold th at h;split at h
 ·rw[h.1];exact a
 split at h
 ·obtain⟨_,h⟩:=h;split at h
  ·exact nC.ok a kZ aa h
  ·rw[h.1];exact a
 split at h
 ·obtain⟨_,h⟩:=h;split at h
  ·exact pL.ok a kZ aa h
  ·rw[h.1];exact a
 split at h
 ·obtain⟨_,h⟩:=h;split at h
  ·exact jl.ok a h
  ·rw[h.1];exact a
 split at h
 ·rw[h.2.1];exact a
 split at h
 ·exact fU.ok a h
 ·rw[h.1];exact a
theorem ez.ok{q:du}(a:q.OK){t line:cP}(hl:line.length<=3000){o:List cP}{b:du}{t1:cP}(h:ez q t line o b t1):b.OK:=by
 have hw:=kB line;unfold ez at h
 cases c:bB line with
 |nil=>rw[c] at h;rw[h.1];exact a
 |cons w ws=>
  rw[c] at h hw;simp only at h;split at h
  ·rw[h.1];exact a
  ·exact th.ok a (by rw[Nh] at hw;omega) h
theorem zG(line:cP):(nX line).length<=line.length:=by
 unfold nX;rw[Oe,Oe];have:=(List.dropWhile_sublist (l:=line) (λ b:UInt8=>decide (b≠124))).length_le;omega
theorem ez.txt{q:du}{t line:cP}{o:List cP}{b:du}{t1:cP}(h:ez q t line o b t1):t1.length<=t.length+line.length+1:=by
 have c:=zG line;unfold ez at h
 cases a:bB line with
 |nil=>rw[a] at h;rw[h.2.1];omega
 |cons w ws=>
  rw[a] at h;simp only at h;split at h
  ·rw[h.2.1];omega
  unfold th at h;split at h
  ·rw[h.2.1];simp only[Nj,Nh,NC];omega
  split at h
  ·rw[h.1];omega
  split at h
  ·rw[h.1];omega
  split at h
  ·rw[h.1];omega
  split at h
  ·rw[h.1];omega
  split at h
  ·unfold fU at h;split at h
   ·rw[h.1];simp
   ·rw[h.2.1];omega
  ·rw[h.2.1];omega
open Lib
open Lib
theorem yZ(N:aV)(d:N.Fits)(l:List ej)(h:∀ a∈l,a∈N.arcs):((l.map rY).flatten).length<=l.length*70:=by
 induction l with
 |nil=>simp
 |cons a l e=>
  have b:=d.arc a (h a ai);have g:=e λ x f=>h x (by simp[f]);have i:=fi [97] [a.fr,a.to,a.cap] (λ n c=>by simp at c;rcases c with rfl|rfl|rfl;exact b.1;exact b.2.1;exact b.2.2);simp only[Nv,OA,Nj,Nh,rY,NC] at*;omega
theorem yM(N:aV)(b:N.Fits):(kr N).length<=400:=by
 have hl:b7 (N.arcs.length:Int):=by have:=b.len;unfold b7;omega
 have e:=fi [112,32,109,97,120] [N.nodes,N.arcs.length] (λ n a=>by simp at a;rcases a with rfl|rfl;exact b.nodes;exact hl);have c:=fi [110] [N.src] (λ n a=>by simp at a;subst a;exact b.src);have d:=fi [110] [N.snk] (λ n a=>by simp at a;subst a;exact b.snk);unfold kr;simp only[Nj,Nh,NC] at*;omega
open Lib
def e9(x:Int):Prop:=0<=x/\x<=9
theorem e9.inB{x:Int}(h:e9 x):Proofs.YtmcnpaelaieniaaGreatDoor.b7 x:=by unfold e9 at h;unfold Proofs.YtmcnpaelaieniaaGreatDoor.b7;omega
theorem aP{n:Int}(m:Int)(h:0<=m/\m<=9)(e:n=m):e9 n:=by rw[e];exact h
theorem Fk(w:cP):e9 (dA w).2:=by
 unfold dA;simp only;by_cases a:w.head?=some 45
 ·rw[if_pos a,if_pos a];split
  ·(first|exact aP 0 ab rfl|exact aP 1 ab rfl|exact aP 2 ab rfl|exact aP 3 ab rfl|exact aP 4 ab rfl|exact aP 5 ab rfl|exact aP 6 ab rfl|exact aP 7 ab rfl|exact aP 8 ab rfl|exact aP 9 ab rfl)
  ·split
   ·(first|exact aP 0 ab rfl|exact aP 1 ab rfl|exact aP 2 ab rfl|exact aP 3 ab rfl|exact aP 4 ab rfl|exact aP 5 ab rfl|exact aP 6 ab rfl|exact aP 7 ab rfl|exact aP 8 ab rfl|exact aP 9 ab rfl)
   ·(first|exact aP 0 ab rfl|exact aP 1 ab rfl|exact aP 2 ab rfl|exact aP 3 ab rfl|exact aP 4 ab rfl|exact aP 5 ab rfl|exact aP 6 ab rfl|exact aP 7 ab rfl|exact aP 8 ab rfl|exact aP 9 ab rfl)
 ·rw[if_neg a,if_neg a];split
  ·(first|exact aP 0 ab rfl|exact aP 1 ab rfl|exact aP 2 ab rfl|exact aP 3 ab rfl|exact aP 4 ab rfl|exact aP 5 ab rfl|exact aP 6 ab rfl|exact aP 7 ab rfl|exact aP 8 ab rfl|exact aP 9 ab rfl)
  ·split
   ·(first|exact aP 0 ab rfl|exact aP 1 ab rfl|exact aP 2 ab rfl|exact aP 3 ab rfl|exact aP 4 ab rfl|exact aP 5 ab rfl|exact aP 6 ab rfl|exact aP 7 ab rfl|exact aP 8 ab rfl|exact aP 9 ab rfl)
   ·(first|exact aP 0 ab rfl|exact aP 1 ab rfl|exact aP 2 ab rfl|exact aP 3 ab rfl|exact aP 4 ab rfl|exact aP 5 ab rfl|exact aP 6 ab rfl|exact aP 7 ab rfl|exact aP 8 ab rfl|exact aP 9 ab rfl)
theorem lY:∀ ws:Ws,e9 (aJ ws).2
 |[]=>by (first|exact aP 0 ab rfl|exact aP 1 ab rfl|exact aP 2 ab rfl|exact aP 3 ab rfl|exact aP 4 ab rfl|exact aP 5 ab rfl|exact aP 6 ab rfl|exact aP 7 ab rfl|exact aP 8 ab rfl|exact aP 9 ab rfl)
 |w::r=>by
  have a:=Fk w;have b:=lY r;unfold aJ;split
  ·exact a
  ·split
   ·exact b
   ·(first|exact aP 0 ab rfl|exact aP 1 ab rfl|exact aP 2 ab rfl|exact aP 3 ab rfl|exact aP 4 ab rfl|exact aP 5 ab rfl|exact aP 6 ab rfl|exact aP 7 ab rfl|exact aP 8 ab rfl|exact aP 9 ab rfl)
theorem D4(r:Rd)(w:Ws):e9 (r.line w).2:=by
 have a:e9 2:=by (first|exact aP 0 ab rfl|exact aP 1 ab rfl|exact aP 2 ab rfl|exact aP 3 ab rfl|exact aP 4 ab rfl|exact aP 5 ab rfl|exact aP 6 ab rfl|exact aP 7 ab rfl|exact aP 8 ab rfl|exact aP 9 ab rfl)
 have b:e9 0:=by (first|exact aP 0 ab rfl|exact aP 1 ab rfl|exact aP 2 ab rfl|exact aP 3 ab rfl|exact aP 4 ab rfl|exact aP 5 ab rfl|exact aP 6 ab rfl|exact aP 7 ab rfl|exact aP 8 ab rfl|exact aP 9 ab rfl)
 unfold Rd.line;split
 ·exact b
 ·split
  ·exact b
  ·split
   ·unfold Rd.problem;split
    ·exact a
    ·split
     ·exact lY _
     ·split
      ·(first|exact aP 0 ab rfl|exact aP 1 ab rfl|exact aP 2 ab rfl|exact aP 3 ab rfl|exact aP 4 ab rfl|exact aP 5 ab rfl|exact aP 6 ab rfl|exact aP 7 ab rfl|exact aP 8 ab rfl|exact aP 9 ab rfl)
      ·exact b
   ·split
    ·unfold Rd.end_;split
     ·exact a
     ·split
      ·split
       ·exact a
       ·split
        ·exact lY _
        ·split
         ·(first|exact aP 0 ab rfl|exact aP 1 ab rfl|exact aP 2 ab rfl|exact aP 3 ab rfl|exact aP 4 ab rfl|exact aP 5 ab rfl|exact aP 6 ab rfl|exact aP 7 ab rfl|exact aP 8 ab rfl|exact aP 9 ab rfl)
         ·split
          ·(first|exact aP 0 ab rfl|exact aP 1 ab rfl|exact aP 2 ab rfl|exact aP 3 ab rfl|exact aP 4 ab rfl|exact aP 5 ab rfl|exact aP 6 ab rfl|exact aP 7 ab rfl|exact aP 8 ab rfl|exact aP 9 ab rfl)
          ·exact b
      ·split
       ·split
        ·exact a
        ·split
         ·exact lY _
         ·split
          ·(first|exact aP 0 ab rfl|exact aP 1 ab rfl|exact aP 2 ab rfl|exact aP 3 ab rfl|exact aP 4 ab rfl|exact aP 5 ab rfl|exact aP 6 ab rfl|exact aP 7 ab rfl|exact aP 8 ab rfl|exact aP 9 ab rfl)
          ·split
           ·(first|exact aP 0 ab rfl|exact aP 1 ab rfl|exact aP 2 ab rfl|exact aP 3 ab rfl|exact aP 4 ab rfl|exact aP 5 ab rfl|exact aP 6 ab rfl|exact aP 7 ab rfl|exact aP 8 ab rfl|exact aP 9 ab rfl)
           ·exact b
       ·exact a
    ·split
     ·unfold Rd.arc;split
      ·exact a
      ·split
       ·exact lY _
       ·split
        ·(first|exact aP 0 ab rfl|exact aP 1 ab rfl|exact aP 2 ab rfl|exact aP 3 ab rfl|exact aP 4 ab rfl|exact aP 5 ab rfl|exact aP 6 ab rfl|exact aP 7 ab rfl|exact aP 8 ab rfl|exact aP 9 ab rfl)
        ·split
         ·(first|exact aP 0 ab rfl|exact aP 1 ab rfl|exact aP 2 ab rfl|exact aP 3 ab rfl|exact aP 4 ab rfl|exact aP 5 ab rfl|exact aP 6 ab rfl|exact aP 7 ab rfl|exact aP 8 ab rfl|exact aP 9 ab rfl)
         ·split
          ·(first|exact aP 0 ab rfl|exact aP 1 ab rfl|exact aP 2 ab rfl|exact aP 3 ab rfl|exact aP 4 ab rfl|exact aP 5 ab rfl|exact aP 6 ab rfl|exact aP 7 ab rfl|exact aP 8 ab rfl|exact aP 9 ab rfl)
          ·split
           ·(first|exact aP 0 ab rfl|exact aP 1 ab rfl|exact aP 2 ab rfl|exact aP 3 ab rfl|exact aP 4 ab rfl|exact aP 5 ab rfl|exact aP 6 ab rfl|exact aP 7 ab rfl|exact aP 8 ab rfl|exact aP 9 ab rfl)
           ·exact b
     ·exact a
theorem wc:∀ (ls:List cP) (r:Rd) (i:Nat),e9 (fj r i ls).2.2
 |[],_,_=>by unfold fj;(first|exact aP 0 ab rfl|exact aP 1 ab rfl|exact aP 2 ab rfl|exact aP 3 ab rfl|exact aP 4 ab rfl|exact aP 5 ab rfl|exact aP 6 ab rfl|exact aP 7 ab rfl|exact aP 8 ab rfl|exact aP 9 ab rfl)
 |x::ls,r,i=>by
  unfold fj;split
  ·exact D4 _ _
  ·exact wc ls _ _
theorem u5(l:cP):e9 (cN l).2.2:=by
 unfold cN;split
 ·exact wc _ _ _
 ·split
  ·(first|exact aP 0 ab rfl|exact aP 1 ab rfl|exact aP 2 ab rfl|exact aP 3 ab rfl|exact aP 4 ab rfl|exact aP 5 ab rfl|exact aP 6 ab rfl|exact aP 7 ab rfl|exact aP 8 ab rfl|exact aP 9 ab rfl)
  ·split
   ·(first|exact aP 0 ab rfl|exact aP 1 ab rfl|exact aP 2 ab rfl|exact aP 3 ab rfl|exact aP 4 ab rfl|exact aP 5 ab rfl|exact aP 6 ab rfl|exact aP 7 ab rfl|exact aP 8 ab rfl|exact aP 9 ab rfl)
   ·(first|exact aP 0 ab rfl|exact aP 1 ab rfl|exact aP 2 ab rfl|exact aP 3 ab rfl|exact aP 4 ab rfl|exact aP 5 ab rfl|exact aP 6 ab rfl|exact aP 7 ab rfl|exact aP 8 ab rfl|exact aP 9 ab rfl)
theorem gg(q:du)(l:LB_):e9 (q.lack l):=by
 unfold du.lack e9;split
 ·(first|exact aP 0 ab rfl|exact aP 1 ab rfl|exact aP 2 ab rfl|exact aP 3 ab rfl|exact aP 4 ab rfl|exact aP 5 ab rfl|exact aP 6 ab rfl|exact aP 7 ab rfl|exact aP 8 ab rfl|exact aP 9 ab rfl)
 ·split<;>(first|exact aP 0 ab rfl|exact aP 1 ab rfl|exact aP 2 ab rfl|exact aP 3 ab rfl|exact aP 4 ab rfl|exact aP 5 ab rfl|exact aP 6 ab rfl|exact aP 7 ab rfl|exact aP 8 ab rfl|exact aP 9 ab rfl)
theorem o9(N:aV)(f:LI_):e9 (eP N f):=by
 have:e9 (iq N f):=by
  unfold iq;split
  ·(first|exact aP 0 ab rfl|exact aP 1 ab rfl|exact aP 2 ab rfl|exact aP 3 ab rfl|exact aP 4 ab rfl|exact aP 5 ab rfl|exact aP 6 ab rfl|exact aP 7 ab rfl|exact aP 8 ab rfl|exact aP 9 ab rfl)
  ·split<;>(first|exact aP 0 ab rfl|exact aP 1 ab rfl|exact aP 2 ab rfl|exact aP 3 ab rfl|exact aP 4 ab rfl|exact aP 5 ab rfl|exact aP 6 ab rfl|exact aP 7 ab rfl|exact aP 8 ab rfl|exact aP 9 ab rfl)
 unfold eP;split
 ·exact this
 ·split<;>(first|exact aP 0 ab rfl|exact aP 1 ab rfl|exact aP 2 ab rfl|exact aP 3 ab rfl|exact aP 4 ab rfl|exact aP 5 ab rfl|exact aP 6 ab rfl|exact aP 7 ab rfl|exact aP 8 ab rfl|exact aP 9 ab rfl)
theorem yU(N:aV)(s:LI_):e9 (qV N s):=by
 unfold qV;split
 ·(first|exact aP 0 ab rfl|exact aP 1 ab rfl|exact aP 2 ab rfl|exact aP 3 ab rfl|exact aP 4 ab rfl|exact aP 5 ab rfl|exact aP 6 ab rfl|exact aP 7 ab rfl|exact aP 8 ab rfl|exact aP 9 ab rfl)
 ·split<;>(first|exact aP 0 ab rfl|exact aP 1 ab rfl|exact aP 2 ab rfl|exact aP 3 ab rfl|exact aP 4 ab rfl|exact aP 5 ab rfl|exact aP 6 ab rfl|exact aP 7 ab rfl|exact aP 8 ab rfl|exact aP 9 ab rfl)
theorem El(N:aV)(f s:LI_):e9 (sU N f s):=by
 unfold sU;split
 ·split
  ·split<;>(first|exact aP 0 ab rfl|exact aP 1 ab rfl|exact aP 2 ab rfl|exact aP 3 ab rfl|exact aP 4 ab rfl|exact aP 5 ab rfl|exact aP 6 ab rfl|exact aP 7 ab rfl|exact aP 8 ab rfl|exact aP 9 ab rfl)
  ·exact yU _ _
 ·exact o9 _ _
theorem y6(N:aV)(its:List It):e9 (qp N its):=by
 unfold qp;split
 ·(first|exact aP 0 ab rfl|exact aP 1 ab rfl|exact aP 2 ab rfl|exact aP 3 ab rfl|exact aP 4 ab rfl|exact aP 5 ab rfl|exact aP 6 ab rfl|exact aP 7 ab rfl|exact aP 8 ab rfl|exact aP 9 ab rfl)
 ·split<;>(first|exact aP 0 ab rfl|exact aP 1 ab rfl|exact aP 2 ab rfl|exact aP 3 ab rfl|exact aP 4 ab rfl|exact aP 5 ab rfl|exact aP 6 ab rfl|exact aP 7 ab rfl|exact aP 8 ab rfl|exact aP 9 ab rfl)
theorem du.check_code(q:du):e9 q.checkZ:=by
 unfold du.checkZ;split
 ·exact gg _ _
 ·exact El _ _ _
theorem du.val_code(q:du):e9 q.valZ.2:=by
 unfold du.valZ;split
 ·exact gg _ _
 ·split
  ·(first|exact aP 0 ab rfl|exact aP 1 ab rfl|exact aP 2 ab rfl|exact aP 3 ab rfl|exact aP 4 ab rfl|exact aP 5 ab rfl|exact aP 6 ab rfl|exact aP 7 ab rfl|exact aP 8 ab rfl|exact aP 9 ab rfl)
  ·exact o9 _ _
theorem du.rep_code(q:du):e9 q.repZ.2:=by
 unfold du.repZ;split
 ·exact gg _ _
 ·split
  ·split
   ·(first|exact aP 0 ab rfl|exact aP 1 ab rfl|exact aP 2 ab rfl|exact aP 3 ab rfl|exact aP 4 ab rfl|exact aP 5 ab rfl|exact aP 6 ab rfl|exact aP 7 ab rfl|exact aP 8 ab rfl|exact aP 9 ab rfl)
   ·exact yU _ _
  ·exact o9 _ _
theorem du.print_code(q:du):e9 q.printZ.2:=by
 unfold du.printZ;split
 ·exact gg _ _
 ·(first|exact aP 0 ab rfl|exact aP 1 ab rfl|exact aP 2 ab rfl|exact aP 3 ab rfl|exact aP 4 ab rfl|exact aP 5 ab rfl|exact aP 6 ab rfl|exact aP 7 ab rfl|exact aP 8 ab rfl|exact aP 9 ab rfl)
theorem du.items_code(q:du):e9 q.itemsZ.2:=by
 unfold du.itemsZ;split
 ·exact gg _ _
 ·split
  ·(first|exact aP 0 ab rfl|exact aP 1 ab rfl|exact aP 2 ab rfl|exact aP 3 ab rfl|exact aP 4 ab rfl|exact aP 5 ab rfl|exact aP 6 ab rfl|exact aP 7 ab rfl|exact aP 8 ab rfl|exact aP 9 ab rfl)
  ·exact o9 _ _
theorem we{g:Gr}{sg e:Int}{l:LI_}(h:sR g sg e l):e9 e:=by
 have a:e9 (ex g):=by
  unfold ex;split
  ·(first|exact aP 0 ab rfl|exact aP 1 ab rfl|exact aP 2 ab rfl|exact aP 3 ab rfl|exact aP 4 ab rfl|exact aP 5 ab rfl|exact aP 6 ab rfl|exact aP 7 ab rfl|exact aP 8 ab rfl|exact aP 9 ab rfl)
  ·split<;>(first|exact aP 0 ab rfl|exact aP 1 ab rfl|exact aP 2 ab rfl|exact aP 3 ab rfl|exact aP 4 ab rfl|exact aP 5 ab rfl|exact aP 6 ab rfl|exact aP 7 ab rfl|exact aP 8 ab rfl|exact aP 9 ab rfl)
 rcases h with ⟨_,_,rfl,_⟩|⟨_,_,rfl,_⟩|⟨_,rfl,_⟩
 ·(first|exact aP 0 ab rfl|exact aP 1 ab rfl|exact aP 2 ab rfl|exact aP 3 ab rfl|exact aP 4 ab rfl|exact aP 5 ab rfl|exact aP 6 ab rfl|exact aP 7 ab rfl|exact aP 8 ab rfl|exact aP 9 ab rfl)
 ·(first|exact aP 0 ab rfl|exact aP 1 ab rfl|exact aP 2 ab rfl|exact aP 3 ab rfl|exact aP 4 ab rfl|exact aP 5 ab rfl|exact aP 6 ab rfl|exact aP 7 ab rfl|exact aP 8 ab rfl|exact aP 9 ab rfl)
 ·exact a
theorem du.val_in{q:du}(a:q.OK):b7 q.valZ.1:=by
 unfold du.valZ;split
 ·unfold b7;simp only;omega
 ·rename_i c;split
  ·rename_i b;have:=dm (a.net (iT (No.1 c))) b.toRanged q.N.snk;unfold b7;simp only;omega
  ·unfold b7;simp only;omega
theorem y9{N:aV}(a:N.Right){p k:Nat}{f:LI_}(h:Dn N 1 (List.replicate N.arcs.length 0) p k f):(k:Int)<=4611686018427387903/\(p:Int)<=4611686018427387903/\aD N f:=by
 obtain⟨b,c,e,_⟩:=h.keeps a ab (iV N a);have g:=dm a b.toRanged N.snk;have d:dH (N.arcs.zip (List.replicate N.arcs.length 0)) N.snk=0:=nq N.arcs N.snk;rw[d] at c;exact⟨aa,aa,b⟩
def sz(o:List cP):Nat:=(o.map λ s=>s.length+1).sum
theorem uC(t:cP):sz (aB t)<=t.length+1:=by
 have:((aB t).map (·++[10])).flatten.length=sz (aB t):=by
  unfold sz;rw[List.length_flatten,OG]
  congr 1
  refine Ou λ x _=>?_;simp
 rcases AB t with h|h
 ·rw[<- this,h];omega
 ·rw[<- this,h];simp
theorem rZ(s:cP):sz [s]=s.length+1:=by simp[sz]
theorem xq{e:Int}(h:e9 e):(gD xc [e]).length<=30:=by
 have:=fi xc [e] λ n a=>by rw[Ni.1 a];exact h.inB
 simp only[xc,Nh,NC] at this ⊢;omega
theorem se{e:Int}(h:e9 e):sz (jX e)<=31:=by
 have:=xq h;unfold jX;rw[rZ];omega
theorem o7{e:Int}(h:e9 e){l:List cP}{b:Nat}(hl:sz l<=b)(a:31<=b):sz (cG e l)<=b:=by
 unfold cG;split
 ·exact Ov (se h) a
 ·exact hl
theorem kX(w:cP)(hw:w.length<=10){n:Int}(h:b7 n):(gD w [n]).length<=31:=by
 have:=fi w [n] λ m hm=>by rw[Ni.1 hm];exact h
 simp only[Nh,NC] at this ⊢;omega
theorem JN{N:aV}(b:N.Right){f s:LI_}(c:aD N f)(d:fm N s):(po f s (dH (N.arcs.zip f) N.snk) (iw s N.arcs)).length<=1000000:=by
 have e:=aD.inB b c.toRanged;have hl:=b.len;have a:=b.nodes;have l:=c.len;have m:=sk a.2 ⟨d.rise,d.rng⟩;have p:=z5 f e f.length (Nr _) aa;have q:=BP s (λ x o=>by have:=d.rng x o;unfold b7;omega) s.length (Nr _);have g:b7 (dH (N.arcs.zip f) N.snk):=by have:=dm b c.toRanged N.snk;unfold b7;omega
 have h:b7 (iw s N.arcs):=by have:=xy b s;unfold b7;omega
 have i:=gX [118,97,108,117,101] [dH (N.arcs.zip f) N.snk] (λ n a=>by rw[Ni.1 a];exact g);have j:=gX [99,117,116] [iw s N.arcs] (λ n a=>by rw[Ni.1 a];exact h)
 have k:(wj (dH (N.arcs.zip f) N.snk) (iw s N.arcs)).length<=20:=by
  unfold wj;split
  ·have:=gX [112,114,111,118,101,100] [] (λ n a=>absurd a Nt);simp only[Nh,NC] at this ⊢;omega
  ·have:=gX [110,111,116,32,112,114,111,118,101,100] [] (λ n a=>absurd a Nt);simp only[Nh,NC] at this ⊢;omega
 unfold po lR;simp only[Nj];simp only[Nh,NC] at i j;omega
theorem sG{N:aV}(b:N.Right):(iu N).length<=1000000:=by
 have c:=b.fits4;have d:=yM N c;have e:=yZ N c N.arcs λ a h=>h;have:=b.len;unfold iu;rw[Nj];omega
theorem wG{N:aV}(a:N.Right){v p k:Int}(b:b7 v)(hp:b7 p)(c:b7 k):sz (uM N v p k)<=200:=by
 have d:=r3 a.nodes.1 a.nodes.2 (by have:=a.len;omega);have e:=kX kz ab b;have f:=kX [112,104,97,115,101,115] ab hp;have g:=kX [119,97,108,107,115] ab c;have h:=kX [98,111,117,110,100] ab (n:=lq N) (by unfold b7;omega);unfold uM;rw[rZ,v4];simp only[Nv,Og,OA,List.flatten_nil,Nj,Nh,NC];omega
theorem oy(w:cP)(hw:w.length<=10){l:LI_}(h:∀ x∈l,b7 x)(hl:l.length<=2000):(gD w l).length<=42010:=by
 have:=fi w l h;omega
theorem du.items_len{q:du}(i:q.OK):(∀ x∈q.itemsZ.1,lM q.N x)/\q.itemsZ.1.length<=2001/\(Proofs.YtmcnpaelaieniaaGreatDoor.dU q.N q.itemsZ.1).length<=85000000:=by
 by_cases c:q.lack [false]≠0\/¬ aD q.N q.f
 ·have e:q.itemsZ.1=[]:=by
   unfold du.itemsZ;split
   ·rfl
   ·rename_i h;rw[if_neg (c.resolve_left h)]
  rw[e];exact⟨λ x j=>absurd j Nt,Nl _,by simp[Proofs.YtmcnpaelaieniaaGreatDoor.dU]⟩
 ·obtain⟨a,c2⟩:=not_or.1 c;have b:=No.1 c2;have d:=i.net (iT (No.1 a))
  have e:q.itemsZ.1=pP q.N q.f:=by
   unfold du.itemsZ;rw[if_neg a,if_pos b]
  rw[e];obtain⟨k,g⟩:=GA d b;have l:=Proofs.YtmcnpaelaieniaaGreatDoor.sp d g;exact⟨g,k,aa⟩
theorem IG{q:du}(a:q.OK):sz q.itemsT<=90000000:=by
 obtain⟨_,_,b⟩:=q.items_len a;unfold du.itemsT;split
 ·have:=se q.items_code;omega
 ·exact o7 (y6 _ _) (by have:=uC (Proofs.YtmcnpaelaieniaaGreatDoor.dU q.N q.itemsZ.1);omega) aa
theorem uV{q:du}(a:q.OK){l:LB_}(h:¬ q.lack l≠0):q.N.Right:=a.net (iT (No.1 h))
theorem du.rep_len{q:du}(a:q.OK):q.repZ.1.length<=1000000:=by
 unfold du.repZ;split
 ·simp
 ·rename_i c;split
  ·rename_i b;split
   ·rename_i d;exact Proofs.YtmcnpaelaieniaaGreatDoor.JN (uV a c) b d
   ·simp
  ·simp
theorem du.print_len{q:du}(a:q.OK):q.printZ.1.length<=1000000:=by
 unfold du.printZ;split
 ·simp
 ·rename_i c;exact Proofs.YtmcnpaelaieniaaGreatDoor.sG (uV a c)
theorem GN{q:du}(a:q.OK){t w:cP}(r:t.length<=9999999){o:List cP}{i:du}{t1:cP}(h:fU q t w o i t1):sz o<=90000000:=by
 have c:sz nj<=31:=ab;unfold fU at h;split at h
 ·obtain⟨_,⟨d,_,rfl⟩|⟨_,_,rfl⟩⟩:=h
  ·obtain⟨_,g,s⟩:=sF d;have u:=nK t;have x:=xq (u5 t);have y:=kX [108,105,110,101] ab (n:=((cN t).2.1:Int)) (by unfold b7;omega);rw[rZ];simp only[Nj,Nh,NC];omega
  ·omega
 ·obtain⟨_,_,h⟩:=h;split at h
  ·subst h;have:=o7 q.check_code c (Nr _);omega
  split at h
  ·subst h;have:=kX kz ab (q.val_in a);have:=o7 q.val_code (l:=[gD kz [q.valZ.1]]) (b:=40) (by rw[rZ];omega) aa;omega
  split at h
  ·subst h;exact IG a
  split at h
  ·subst h;have g:=q.rep_len a;have:=o7 q.rep_code (l:=aB q.repZ.1) (b:=1000001) (by have:=uC q.repZ.1;omega) aa;omega
  split at h
  ·subst h;have g:=q.print_len a;have:=o7 q.print_code (l:=aB q.printZ.1) (b:=1000001) (by have:=uC q.printZ.1;omega) aa;omega
  split at h
  ·rcases h with ⟨_,rfl⟩|⟨d,f,p,k,j,rfl⟩
   ·have:=se (gg q []);omega
   ·have e:=a.net (iT d);obtain⟨z,hp,m⟩:=y9 e j;have A:=dm e m.toRanged q.N.snk;have:=wG e (v:=dH (q.N.arcs.zip f) q.N.snk) (p:=p) (k:=k) (by unfold b7;omega) (by unfold b7;omega) (by unfold b7;omega);omega
  ·subst h;decide
theorem Fm{ws:Ws}(hl:ws.length<=3000){o:List cP}(h:kK ws o):sz o<=1000000:=by
 unfold kK at h;split at h
 ·subst h;decide
 ·obtain⟨e,l,g,i,c,j,k,q,a2,a3,rfl⟩:=h;have d:(gh (aJ (ws.drop 1)).1).Fits:=tT kZ (by have:=rD (ws.drop 1);rw[List.length_drop] at this;omega);obtain⟨g1,g2,g3⟩:=c.good d;refine o7 (we c) ?_ ab;by_cases he:e=0
  ·obtain⟨b,hM,_⟩:=g3 he;have f:=j he;have m:=oy [112,97,105,114,115] ab (vc d hM) aa;have n:=oy [108,101,102,116] ab (l:=g) (λ x a=>by have:=f.isl.rng x a;have:=b.left;unfold b7;omega) aa;have p:=oy [114,105,103,104,116] ab (l:=i) (λ x a=>by have:=f.isr.rng x a;have:=b.right;unfold b7;omega) aa;simp only[sz,Nv,Og,ND,List.sum_nil];omega
  ·obtain⟨rfl,rfl⟩:=k he;obtain rfl:=g2 he;have m:=oy [112,97,105,114,115] (l:=[]) ab (λ x a=>absurd a Nt) ai;have n:=oy [108,101,102,116] (l:=[]) ab (λ x a=>absurd a Nt) ai;have p:=oy [114,105,103,104,116] (l:=[]) ab (λ x a=>absurd a Nt) ai;simp only[sz,Nv,Og,ND,List.sum_nil];omega
theorem Mk{q:du}(a:q.OK){t line w:cP}{ws:Ws}(hl:ws.length<=3000)(d:t.length<=9999999){o:List cP}{g:du}{t1:cP}(h:th q t line w ws o g t1):sz o<=90000000:=by
 have i:sz nj<=31:=ab;have j:sz eL<=31:=ab;have he:=λ l=>se (gg q l);unfold th at h;split at h
 ·rw[h.2.2];decide
 split at h
 ·obtain⟨_,h⟩:=h;split at h
  ·unfold nC at h;split at h
   ·rw[h.2];have:=he [];omega
   ·split at h
    ·rw[h.2];have:=se (e:=6) (by unfold e9;decide);omega
    ·rw[h.2];omega
  ·rw[h.2];omega
 split at h
 ·obtain⟨_,h⟩:=h;split at h
  ·unfold pL at h;split at h
   ·rw[h.2];have:=he [];omega
   ·rw[h.2];omega
  ·rw[h.2];omega
 split at h
 ·obtain⟨_,h⟩:=h;split at h
  ·unfold jl at h;split at h
   ·rw[h.2];have:=he [];omega
   ·rename_i c;split at h
    ·obtain⟨f,s,k,_,_,rfl⟩:=h;have b:=uV a c;have m:=dm b (k.max b).1.toRanged q.N.snk;have:=kX kz ab (n:=dH (q.N.arcs.zip f) q.N.snk) (by unfold b7;omega);rw[rZ];omega
    ·rw[h.2];have:=se (e:=1) (by unfold e9;decide);omega
  ·rw[h.2];omega
 split at h
 ·have:=Fm hl h.2.2;omega
 split at h
 ·exact GN a d h
 ·rw[h.2.2];omega
theorem Ka{q:du}(b:q.OK){t line:cP}(hl:line.length<=3000)(c:t.length<=9999999){o:List cP}{d:du}{t1:cP}(h:ez q t line o d t1):sz o<=90000000:=by
 have hw:=kB line;unfold ez at h
 cases a:bB line with
 |nil=>rw[a] at h;rw[h.2.2];decide
 |cons w ws=>
  rw[a] at h hw;simp only at h;split at h
  ·rw[h.2.2];decide
  ·exact Mk b (by rw[Nh] at hw;omega) c h
theorem Cr:∀ {ls:List cP} {q:du} (_:q.OK) {t:cP} (_:∀ l∈ls,l.length<=3000) (_:t.length+ls.length*3001<=9999999) {os:List (List cP)} {c:du} {t1:cP},jY q t ls os c t1->∀ o∈os,sz o<=90000000
 |[],_,_,_,_,_,_,_,_,⟨rfl,_,_⟩,o,a=>absurd a Nt
 |l::ls,q,d,t,hl,f,_,_,_,⟨j,g,c,t1,b,h,rfl⟩,o,a=>by
  have e:=hl l ai;rw[Nh] at f
  rcases Nn.1 a with rfl|a
  ·exact Ka d e aa b
  ·exact Cr (ez.ok d e b) (λ x i=>hl x (by simp[i])) (by have:=ez.txt b;omega) h o a
end Go.Proofs.YtmcnpaelaieniaaGreatDoor
