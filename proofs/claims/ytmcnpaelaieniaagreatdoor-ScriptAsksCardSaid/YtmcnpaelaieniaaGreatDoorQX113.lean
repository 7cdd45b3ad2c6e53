import Derived.Test.YtmcnpaelaieniaaGreatDoorQX123
/- A part of the proof. -/
set_option linter.unusedVariables false
set_option linter.unusedSimpArgs false
namespace Go.Proofs.YtmcnpaelaieniaaGreatDoor
open Go.RowKit
open Lib
theorem o5:∀ ws:Ws,(aS ws).1.length<=ws.length
 |[]=>Nk _
 |w::r=>by
  have a:=o5 r;unfold aS;split
  ·exact Nk _
  ·split
   ·exact Nk _
   ·simp only[Nf];omega
theorem u0:∀ l:LI_,(dZ l).length<=l.length/2
 |[]=>Nk _
 |[_]=>Nk _
 |a::b::l=>by
  have:=u0 l;unfold dZ;simp only[Nf];omega
theorem wB:∀ {l:LI_},(∀ n∈l,b9 n)->∀ e∈dZ l,b9 e.l/\b9 e.r
 |[],_,e,he=>absurd he Nr
 |[_],_,e,he=>absurd he Nr
 |a::b::l,h,e,he=>by
  unfold dZ at he
  rcases Nl.1 he with rfl|he
  ·exact⟨h a ai,h b ai⟩
  ·exact wB (l:=l) (λ n c=>h n (by simp[c])) e he
theorem getD_in{l:LI_}(h:∀ n∈l,b9 n)(i:Nat):b9 (l.getD i 0):=by
 rw[Nc]
 cases a:l[i]? with
 |none=>unfold b9;show _<=(0:Int)/\(0:Int)<=_;omega
 |some x=>exact h x (M9 a)
theorem pT{l:LI_}(h:∀ n∈l,b9 n)(hl:l.length<=3000):(fX l).Fits:=by
 have:=u0 (l.drop 2);rw[N5] at this;exact⟨getD_in h 0,getD_in h 1,by show (dZ (l.drop 2)).length<=_;omega,wB λ n a=>h n (PM a)⟩
theorem countR.uniq{q:c9}(e:q.OK){o o':List bP}(h:q.countR o)(d:q.countR o'):o=o':=by
 rcases h with ⟨a,rfl⟩|⟨a,f,p,k,g,rfl⟩
 ·rcases d with ⟨_,rfl⟩|⟨b,_⟩
  ·rfl
  ·exact absurd b a
 ·rcases d with ⟨b,_⟩|⟨_,f2,i,j,c,rfl⟩
  ·exact absurd a b
  ·obtain⟨rfl,rfl,rfl⟩:=Dn.uniq (e.net (gZ a)) ab g c;rfl
theorem ia.uniq{ws:Ws}(hl:ws.length<=3000){o o':List bP}(h:ia ws o)(a:ia ws o'):o=o':=by
 unfold ia at h a;split at h
 ·rename_i b;rw[if_pos b] at a;rw[h,a]
 ·rename_i b;rw[if_neg b] at a;obtain⟨e,l,n,p,c,d,f,_,_,_,rfl⟩:=h;obtain⟨q,r,g,i,k1,j,k,_,_,_,rfl⟩:=a;have m:(fX (aS (ws.drop 1)).1).Fits:=pT lo (by have:=o5 (ws.drop 1);rw[List.length_drop] at this;omega);obtain⟨rfl,rfl⟩:=c.uniq m k1;by_cases he:e=0
  ·obtain⟨rfl,rfl⟩:=(d he).uniq (j he);rfl
  ·obtain⟨rfl,rfl⟩:=f he;obtain⟨rfl,rfl⟩:=k he;rfl
theorem eJ.uniq{q:c9}(j:q.OK){t w:bP}{o o':List bP}{e f:c9}{t1 t2:bP}(h:eJ q t w o e t1)(a:eJ q t w o' f t2):o=o'/\e=f/\t1=t2:=by
 unfold eJ at h a;by_cases c:w=[108,111,97,100]
 ·rw[if_pos c] at h a;obtain⟨rfl,⟨b,rfl,rfl⟩|⟨b,rfl,rfl⟩⟩:=h<;>obtain⟨rfl,⟨d,rfl,rfl⟩|⟨d,rfl,rfl⟩⟩:=a
  ·exact gY
  ·exact absurd d b
  ·exact absurd b d
  ·exact gY
 ·rw[if_neg c] at h a;obtain⟨rfl,rfl,h⟩:=h;obtain⟨rfl,rfl,a⟩:=a;refine⟨?_,rfl,rfl⟩;by_cases g:w=[99,104,101,99,107]
  ·rw[if_pos g] at h a;rw[h,a]
  rw[if_neg g] at h a;by_cases c2:w=jK
  ·rw[if_pos c2] at h a;rw[h,a]
  rw[if_neg c2] at h a;by_cases c3:w=[105,116,101,109,115]
  ·rw[if_pos c3] at h a;rw[h,a]
  rw[if_neg c3] at h a;by_cases c4:w=[114,101,112,111,114,116]
  ·rw[if_pos c4] at h a;rw[h,a]
  rw[if_neg c4] at h a;by_cases c5:w=[112,114,105,110,116]
  ·rw[if_pos c5] at h a;rw[h,a]
  rw[if_neg c5] at h a;by_cases i:w=[99,111,117,110,116]
  ·rw[if_pos i] at h a;exact countR.uniq j h a
  rw[if_neg i] at h a;rw[h,a]
theorem ga.uniq{q:c9}(e:q.OK){sg:Int}{o o':List bP}{b d:c9}(h:ga q sg o b)(a:ga q sg o' d):o=o'/\b=d:=by
 unfold ga at h a;by_cases c:q.lack []≠0
 ·rw[if_pos c] at h a;exact⟨h.2.trans a.2.symm,h.1.trans a.1.symm⟩
 rw[if_neg c] at h a;by_cases c2:sg=112\/sg=116\/sg=115
 ·rw[if_pos c2] at h a;obtain⟨f,s,g,i,rfl,rfl⟩:=h;obtain⟨f',k,k1,j,rfl,rfl⟩:=a;obtain rfl:=g.uniq (e.net (gZ (Nn.1 c))) k1;obtain rfl:=i.uniq j;exact gY
 ·rw[if_neg c2] at h a;exact⟨h.2.trans a.2.symm,h.1.trans a.1.symm⟩
theorem j8.uniq{q:c9}{l:LI_}{o o':List bP}{b d:c9}(h:j8 q l o b)(a:j8 q l o' d):o=o'/\b=d:=by
 unfold j8 at h a;by_cases c:q.lack []≠0
 ·rw[if_pos c] at h a;exact⟨h.2.trans a.2.symm,h.1.trans a.1.symm⟩
 rw[if_neg c] at h a;by_cases c2:l.length≠q.N.arcs.length
 ·rw[if_pos c2] at h a;exact⟨h.2.trans a.2.symm,h.1.trans a.1.symm⟩
 ·rw[if_neg c2] at h a;exact⟨h.2.trans a.2.symm,h.1.trans a.1.symm⟩
theorem kB.uniq{q:c9}{l:LI_}{o o':List bP}{b d:c9}(h:kB q l o b)(a:kB q l o' d):o=o'/\b=d:=by
 unfold kB at h a;by_cases c:q.lack []≠0
 ·rw[if_pos c] at h a;exact⟨h.2.trans a.2.symm,h.1.trans a.1.symm⟩
 ·rw[if_neg c] at h a;exact⟨h.2.trans a.2.symm,h.1.trans a.1.symm⟩
theorem ql.uniq{q:c9}(b:q.OK){t line w:bP}{ws:Ws}(hl:ws.length<=3000){o o':List bP}{e f:c9}{t1 t2:bP}(h:ql q t line w ws o e t1)(a:ql q t line w ws o' f t2):o=o'/\e=f/\t1=t2:=by
 unfold ql at h a;by_cases c:w=[124]
 ·rw[if_pos c] at h a;exact⟨h.2.2.trans a.2.2.symm,h.1.trans a.1.symm,h.2.1.trans a.2.1.symm⟩
 rw[if_neg c] at h a;by_cases c:w=[102,108,111,119]
 ·rw[if_pos c] at h a;obtain⟨rfl,h⟩:=h;obtain⟨rfl,a⟩:=a;by_cases d:(aS ws).2=0
  ·rw[if_pos d] at h a;obtain⟨rfl,rfl⟩:=j8.uniq h a;exact⟨rfl,rfl,rfl⟩
  ·rw[if_neg d] at h a;exact⟨h.2.trans a.2.symm,h.1.trans a.1.symm,rfl⟩
 rw[if_neg c] at h a;by_cases c:w=[99,117,116]
 ·rw[if_pos c] at h a;obtain⟨rfl,h⟩:=h;obtain⟨rfl,a⟩:=a;by_cases d:(aS ws).2=0
  ·rw[if_pos d] at h a;obtain⟨rfl,rfl⟩:=kB.uniq h a;exact⟨rfl,rfl,rfl⟩
  ·rw[if_neg d] at h a;exact⟨h.2.trans a.2.symm,h.1.trans a.1.symm,rfl⟩
 rw[if_neg c] at h a;by_cases c:w=[115,111,108,118,101]
 ·rw[if_pos c] at h a;obtain⟨rfl,h⟩:=h;obtain⟨rfl,a⟩:=a;by_cases d:ws.length=1/\(ws.getD 0 []).length=1
  ·rw[if_pos d] at h a;obtain⟨rfl,rfl⟩:=ga.uniq b h a;exact⟨rfl,rfl,rfl⟩
  ·rw[if_neg d] at h a;exact⟨h.2.trans a.2.symm,h.1.trans a.1.symm,rfl⟩
 rw[if_neg c] at h a;by_cases c:w=[112,97,105,114,115]
 ·rw[if_pos c] at h a;exact⟨ia.uniq hl h.2.2 a.2.2,h.2.1.trans a.2.1.symm,h.1.trans a.1.symm⟩
 rw[if_neg c] at h a;by_cases c:ws=[]
 ·rw[if_pos c] at h a;exact eJ.uniq b h a
 ·rw[if_neg c] at h a;exact⟨h.2.2.trans a.2.2.symm,h.1.trans a.1.symm,h.2.1.trans a.2.1.symm⟩
theorem dr.uniq{q:c9}(f:q.OK){t line:bP}(hl:line.length<=3000){o o':List bP}{b d:c9}{t1 t2:bP}(h:dr q t line o b t1)(a:dr q t line o' d t2):o=o'/\b=d/\t1=t2:=by
 have hw:=kJ line;unfold dr at h a
 cases e:bI line with
 |nil=>rw[e] at h a;exact⟨h.2.2.trans a.2.2.symm,h.1.trans a.1.symm,h.2.1.trans a.2.1.symm⟩
 |cons w ws=>
  rw[e] at h a hw;simp only at h a;by_cases c:w.head?=some 35
  ·rw[if_pos c] at h a;exact⟨h.2.2.trans a.2.2.symm,h.1.trans a.1.symm,h.2.1.trans a.2.1.symm⟩
  ·rw[if_neg c] at h a;exact ql.uniq f (by rw[Nf] at hw;omega) h a
theorem ga.ok{q:c9}(b:q.OK){sg:Int}{o:List bP}{d:c9}(h:ga q sg o d):d.OK:=by
 unfold ga at h;split at h
 ·rw[h.1];exact b
 ·rename_i c;split at h
  ·obtain⟨f,s,e,g,rfl,_⟩:=h;have i:=gZ (Nn.1 c);have a:=b.net i;have hm:=e.max a;have j:=g.cut a hm;have hl:=a.len;have m:=a.nodes;have k:=hm.1.len;exact⟨λ _=>a,aD.inB a hm.1.toRanged,λ x l=>by have:=j.1.rng x l;unfold b9;omega,by show f.length<=_;omega,by show s.length<=_;omega⟩
  ·rw[h.1];exact b
theorem j8.ok{q:c9}(a:q.OK){l:LI_}(hi:∀ x∈l,b9 x)(hl:l.length<=100000){o:List bP}{b:c9}(h:j8 q l o b):b.OK:=by
 unfold j8 at h;split at h
 ·rw[h.1];exact a
 ·split at h
  ·rw[h.1];exact a
  ·rw[h.1];exact⟨a.net,hi,a.sin,hl,a.slen⟩
theorem kB.ok{q:c9}(a:q.OK){l:LI_}(hi:∀ x∈l,b9 x)(hl:l.length<=100000){o:List bP}{b:c9}(h:kB q l o b):b.OK:=by
 unfold kB at h;split at h
 ·rw[h.1];exact a
 ·rw[h.1];exact⟨a.net,a.fin,hi,a.flen,hl⟩
theorem eJ.ok{q:c9}(a:q.OK){t w:bP}{o:List bP}{b:c9}{t1:bP}(h:eJ q t w o b t1):b.OK:=by
 unfold eJ at h;split at h
 ·obtain⟨_,⟨_,rfl,_⟩|⟨c,rfl,_⟩⟩:=h
  ·exact a
  ·exact⟨λ _=>(yD c).1,λ _ h=>absurd h Nr,λ _ h=>absurd h Nr,Nk _,Nk _⟩
 ·rw[h.1];exact a
theorem ql.ok{q:c9}(a:q.OK){t line w:bP}{ws:Ws}(hl:ws.length<=3000){o:List bP}{b:c9}{t1:bP}(h:ql q t line w ws o b t1):b.OK:=by
 have c:=o5 ws;unfold ql at h;split at h
 ·rw[h.1];exact a
 split at h
 ·obtain⟨_,h⟩:=h;split at h
  ·exact j8.ok a lo aa h
  ·rw[h.1];exact a
 split at h
 ·obtain⟨_,h⟩:=h;split at h
  ·exact kB.ok a lo aa h
  ·rw[h.1];exact a
 split at h
 ·obtain⟨_,h⟩:=h;split at h
  ·exact ga.ok a h
  ·rw[h.1];exact a
 split at h
 ·rw[h.2.1];exact a
 split at h
 ·exact eJ.ok a h
 ·rw[h.1];exact a
theorem dr.ok{q:c9}(a:q.OK){t line:bP}(hl:line.length<=3000){o:List bP}{b:c9}{t1:bP}(h:dr q t line o b t1):b.OK:=by
 have hw:=kJ line;unfold dr at h
 cases c:bI line with
 |nil=>rw[c] at h;rw[h.1];exact a
 |cons w ws=>
  rw[c] at h hw;simp only at h;split at h
  ·rw[h.1];exact a
  ·exact ql.ok a (by rw[Nf] at hw;omega) h
theorem ya(line:bP):(oo line).length<=line.length:=by
 unfold oo;rw[N5,N5];have:=(List.dropWhile_sublist (l:=line) (λ b:UInt8=>decide (b≠124))).length_le;omega
theorem dr.txt{q:c9}{t line:bP}{o:List bP}{b:c9}{t1:bP}(h:dr q t line o b t1):t1.length<=t.length+line.length+1:=by
 have c:=ya line;unfold dr at h
 cases a:bI line with
 |nil=>rw[a] at h;rw[h.2.1];omega
 |cons w ws=>
  rw[a] at h;simp only at h;split at h
  ·rw[h.2.1];omega
  unfold ql at h;split at h
  ·rw[h.2.1];simp only[Ng,Nf,NA];omega
  split at h
  ·rw[h.1];omega
  split at h
  ·rw[h.1];omega
  split at h
  ·rw[h.1];omega
  split at h
  ·rw[h.1];omega
  split at h
  ·unfold eJ at h;split at h
   ·rw[h.1];simp
   ·rw[h.2.1];omega
  ·rw[h.2.1];omega
open Lib
open Lib
theorem GI(N:aR)(d:N.Fits)(l:List eq)(h:∀ a∈l,a∈N.arcs):((l.map rS).flatten).length<=l.length*70:=by
 induction l with
 |nil=>simp
 |cons a l e=>
  have b:=d.arc a (h a ai);have g:=e λ x f=>h x (by simp[f]);have i:=fi [97] [a.fr,a.to,a.cap] (λ n c=>by simp at c;rcases c with rfl|rfl|rfl;exact b.1;exact b.2.1;exact b.2.2);simp only[Ns,Oy,Ng,Nf,rS,NA] at*;omega
theorem Gn(N:aR)(b:N.Fits):(kO N).length<=400:=by
 have hl:b9 (N.arcs.length:Int):=by have:=b.len;unfold b9;omega
 have e:=fi [112,32,109,97,120] [N.nodes,N.arcs.length] (λ n a=>by simp at a;rcases a with rfl|rfl;exact b.nodes;exact hl);have c:=fi [110] [N.src] (λ n a=>by simp at a;subst a;exact b.src);have d:=fi [110] [N.snk] (λ n a=>by simp at a;subst a;exact b.snk);unfold kO;simp only[Ng,Nf,NA] at*;omega
open Lib
def e9(x:Int):Prop:=0<=x/\x<=9
theorem e9.inB{x:Int}(h:e9 x):Proofs.YtmcnpaelaieniaaGreatDoor.b9 x:=by unfold e9 at h;unfold Proofs.YtmcnpaelaieniaaGreatDoor.b9;omega
theorem aM{n:Int}(m:Int)(h:0<=m/\m<=9)(e:n=m):e9 n:=by rw[e];exact h
theorem G1(w:bP):e9 (et w).2:=by
 unfold et;simp only;by_cases a:w.head?=some 45
 ·rw[if_pos a,if_pos a];split
  ·(first|exact aM 0 ab rfl|exact aM 1 ab rfl|exact aM 2 ab rfl|exact aM 3 ab rfl|exact aM 4 ab rfl|exact aM 5 ab rfl|exact aM 6 ab rfl|exact aM 7 ab rfl|exact aM 8 ab rfl|exact aM 9 ab rfl)
  ·split
   ·(first|exact aM 0 ab rfl|exact aM 1 ab rfl|exact aM 2 ab rfl|exact aM 3 ab rfl|exact aM 4 ab rfl|exact aM 5 ab rfl|exact aM 6 ab rfl|exact aM 7 ab rfl|exact aM 8 ab rfl|exact aM 9 ab rfl)
   ·(first|exact aM 0 ab rfl|exact aM 1 ab rfl|exact aM 2 ab rfl|exact aM 3 ab rfl|exact aM 4 ab rfl|exact aM 5 ab rfl|exact aM 6 ab rfl|exact aM 7 ab rfl|exact aM 8 ab rfl|exact aM 9 ab rfl)
 ·rw[if_neg a,if_neg a];split
  ·(first|exact aM 0 ab rfl|exact aM 1 ab rfl|exact aM 2 ab rfl|exact aM 3 ab rfl|exact aM 4 ab rfl|exact aM 5 ab rfl|exact aM 6 ab rfl|exact aM 7 ab rfl|exact aM 8 ab rfl|exact aM 9 ab rfl)
  ·split
   ·(first|exact aM 0 ab rfl|exact aM 1 ab rfl|exact aM 2 ab rfl|exact aM 3 ab rfl|exact aM 4 ab rfl|exact aM 5 ab rfl|exact aM 6 ab rfl|exact aM 7 ab rfl|exact aM 8 ab rfl|exact aM 9 ab rfl)
   ·(first|exact aM 0 ab rfl|exact aM 1 ab rfl|exact aM 2 ab rfl|exact aM 3 ab rfl|exact aM 4 ab rfl|exact aM 5 ab rfl|exact aM 6 ab rfl|exact aM 7 ab rfl|exact aM 8 ab rfl|exact aM 9 ab rfl)
theorem lP:∀ ws:Ws,e9 (aS ws).2
 |[]=>by (first|exact aM 0 ab rfl|exact aM 1 ab rfl|exact aM 2 ab rfl|exact aM 3 ab rfl|exact aM 4 ab rfl|exact aM 5 ab rfl|exact aM 6 ab rfl|exact aM 7 ab rfl|exact aM 8 ab rfl|exact aM 9 ab rfl)
 |w::r=>by
  have a:=G1 w;have b:=lP r;unfold aS;split
  ·exact a
  ·split
   ·exact b
   ·(first|exact aM 0 ab rfl|exact aM 1 ab rfl|exact aM 2 ab rfl|exact aM 3 ab rfl|exact aM 4 ab rfl|exact aM 5 ab rfl|exact aM 6 ab rfl|exact aM 7 ab rfl|exact aM 8 ab rfl|exact aM 9 ab rfl)
theorem Et(r:Rd)(w:Ws):e9 (r.line w).2:=by
 have a:e9 2:=by (first|exact aM 0 ab rfl|exact aM 1 ab rfl|exact aM 2 ab rfl|exact aM 3 ab rfl|exact aM 4 ab rfl|exact aM 5 ab rfl|exact aM 6 ab rfl|exact aM 7 ab rfl|exact aM 8 ab rfl|exact aM 9 ab rfl)
 have b:e9 0:=by (first|exact aM 0 ab rfl|exact aM 1 ab rfl|exact aM 2 ab rfl|exact aM 3 ab rfl|exact aM 4 ab rfl|exact aM 5 ab rfl|exact aM 6 ab rfl|exact aM 7 ab rfl|exact aM 8 ab rfl|exact aM 9 ab rfl)
 unfold Rd.line;split
 ·exact b
 ·split
  ·exact b
  ·split
   ·unfold Rd.problem;split
    ·exact a
    ·split
     ·exact lP _
     ·split
      ·(first|exact aM 0 ab rfl|exact aM 1 ab rfl|exact aM 2 ab rfl|exact aM 3 ab rfl|exact aM 4 ab rfl|exact aM 5 ab rfl|exact aM 6 ab rfl|exact aM 7 ab rfl|exact aM 8 ab rfl|exact aM 9 ab rfl)
      ·exact b
   ·split
    ·unfold Rd.end_;split
     ·exact a
     ·split
      ·split
       ·exact a
       ·split
        ·exact lP _
        ·split
         ·(first|exact aM 0 ab rfl|exact aM 1 ab rfl|exact aM 2 ab rfl|exact aM 3 ab rfl|exact aM 4 ab rfl|exact aM 5 ab rfl|exact aM 6 ab rfl|exact aM 7 ab rfl|exact aM 8 ab rfl|exact aM 9 ab rfl)
         ·split
          ·(first|exact aM 0 ab rfl|exact aM 1 ab rfl|exact aM 2 ab rfl|exact aM 3 ab rfl|exact aM 4 ab rfl|exact aM 5 ab rfl|exact aM 6 ab rfl|exact aM 7 ab rfl|exact aM 8 ab rfl|exact aM 9 ab rfl)
          ·exact b
      ·split
       ·split
        ·exact a
        ·split
         ·exact lP _
         ·split
          ·(first|exact aM 0 ab rfl|exact aM 1 ab rfl|exact aM 2 ab rfl|exact aM 3 ab rfl|exact aM 4 ab rfl|exact aM 5 ab rfl|exact aM 6 ab rfl|exact aM 7 ab rfl|exact aM 8 ab rfl|exact aM 9 ab rfl)
          ·split
           ·(first|exact aM 0 ab rfl|exact aM 1 ab rfl|exact aM 2 ab rfl|exact aM 3 ab rfl|exact aM 4 ab rfl|exact aM 5 ab rfl|exact aM 6 ab rfl|exact aM 7 ab rfl|exact aM 8 ab rfl|exact aM 9 ab rfl)
           ·exact b
       ·exact a
    ·split
     ·unfold Rd.arc;split
      ·exact a
      ·split
       ·exact lP _
       ·split
        ·(first|exact aM 0 ab rfl|exact aM 1 ab rfl|exact aM 2 ab rfl|exact aM 3 ab rfl|exact aM 4 ab rfl|exact aM 5 ab rfl|exact aM 6 ab rfl|exact aM 7 ab rfl|exact aM 8 ab rfl|exact aM 9 ab rfl)
        ·split
         ·(first|exact aM 0 ab rfl|exact aM 1 ab rfl|exact aM 2 ab rfl|exact aM 3 ab rfl|exact aM 4 ab rfl|exact aM 5 ab rfl|exact aM 6 ab rfl|exact aM 7 ab rfl|exact aM 8 ab rfl|exact aM 9 ab rfl)
         ·split
          ·(first|exact aM 0 ab rfl|exact aM 1 ab rfl|exact aM 2 ab rfl|exact aM 3 ab rfl|exact aM 4 ab rfl|exact aM 5 ab rfl|exact aM 6 ab rfl|exact aM 7 ab rfl|exact aM 8 ab rfl|exact aM 9 ab rfl)
          ·split
           ·(first|exact aM 0 ab rfl|exact aM 1 ab rfl|exact aM 2 ab rfl|exact aM 3 ab rfl|exact aM 4 ab rfl|exact aM 5 ab rfl|exact aM 6 ab rfl|exact aM 7 ab rfl|exact aM 8 ab rfl|exact aM 9 ab rfl)
           ·exact b
     ·exact a
theorem wH:∀ (ls:List bP) (r:Rd) (i:Nat),e9 (fk r i ls).2.2
 |[],_,_=>by unfold fk;(first|exact aM 0 ab rfl|exact aM 1 ab rfl|exact aM 2 ab rfl|exact aM 3 ab rfl|exact aM 4 ab rfl|exact aM 5 ab rfl|exact aM 6 ab rfl|exact aM 7 ab rfl|exact aM 8 ab rfl|exact aM 9 ab rfl)
 |x::ls,r,i=>by
  unfold fk;split
  ·exact Et _ _
  ·exact wH ls _ _
theorem ua(l:bP):e9 (cR l).2.2:=by
 unfold cR;split
 ·exact wH _ _ _
 ·split
  ·(first|exact aM 0 ab rfl|exact aM 1 ab rfl|exact aM 2 ab rfl|exact aM 3 ab rfl|exact aM 4 ab rfl|exact aM 5 ab rfl|exact aM 6 ab rfl|exact aM 7 ab rfl|exact aM 8 ab rfl|exact aM 9 ab rfl)
  ·split
   ·(first|exact aM 0 ab rfl|exact aM 1 ab rfl|exact aM 2 ab rfl|exact aM 3 ab rfl|exact aM 4 ab rfl|exact aM 5 ab rfl|exact aM 6 ab rfl|exact aM 7 ab rfl|exact aM 8 ab rfl|exact aM 9 ab rfl)
   ·(first|exact aM 0 ab rfl|exact aM 1 ab rfl|exact aM 2 ab rfl|exact aM 3 ab rfl|exact aM 4 ab rfl|exact aM 5 ab rfl|exact aM 6 ab rfl|exact aM 7 ab rfl|exact aM 8 ab rfl|exact aM 9 ab rfl)
theorem f9(q:c9)(l:LB_):e9 (q.lack l):=by
 unfold c9.lack e9;split
 ·(first|exact aM 0 ab rfl|exact aM 1 ab rfl|exact aM 2 ab rfl|exact aM 3 ab rfl|exact aM 4 ab rfl|exact aM 5 ab rfl|exact aM 6 ab rfl|exact aM 7 ab rfl|exact aM 8 ab rfl|exact aM 9 ab rfl)
 ·split<;>(first|exact aM 0 ab rfl|exact aM 1 ab rfl|exact aM 2 ab rfl|exact aM 3 ab rfl|exact aM 4 ab rfl|exact aM 5 ab rfl|exact aM 6 ab rfl|exact aM 7 ab rfl|exact aM 8 ab rfl|exact aM 9 ab rfl)
theorem oC(N:aR)(f:LI_):e9 (eQ N f):=by
 have:e9 (iw N f):=by
  unfold iw;split
  ·(first|exact aM 0 ab rfl|exact aM 1 ab rfl|exact aM 2 ab rfl|exact aM 3 ab rfl|exact aM 4 ab rfl|exact aM 5 ab rfl|exact aM 6 ab rfl|exact aM 7 ab rfl|exact aM 8 ab rfl|exact aM 9 ab rfl)
  ·split<;>(first|exact aM 0 ab rfl|exact aM 1 ab rfl|exact aM 2 ab rfl|exact aM 3 ab rfl|exact aM 4 ab rfl|exact aM 5 ab rfl|exact aM 6 ab rfl|exact aM 7 ab rfl|exact aM 8 ab rfl|exact aM 9 ab rfl)
 unfold eQ;split
 ·exact this
 ·split<;>(first|exact aM 0 ab rfl|exact aM 1 ab rfl|exact aM 2 ab rfl|exact aM 3 ab rfl|exact aM 4 ab rfl|exact aM 5 ab rfl|exact aM 6 ab rfl|exact aM 7 ab rfl|exact aM 8 ab rfl|exact aM 9 ab rfl)
theorem zK(N:aR)(s:LI_):e9 (rr N s):=by
 unfold rr;split
 ·(first|exact aM 0 ab rfl|exact aM 1 ab rfl|exact aM 2 ab rfl|exact aM 3 ab rfl|exact aM 4 ab rfl|exact aM 5 ab rfl|exact aM 6 ab rfl|exact aM 7 ab rfl|exact aM 8 ab rfl|exact aM 9 ab rfl)
 ·split<;>(first|exact aM 0 ab rfl|exact aM 1 ab rfl|exact aM 2 ab rfl|exact aM 3 ab rfl|exact aM 4 ab rfl|exact aM 5 ab rfl|exact aM 6 ab rfl|exact aM 7 ab rfl|exact aM 8 ab rfl|exact aM 9 ab rfl)
theorem EQ(N:aR)(f s:LI_):e9 (sT N f s):=by
 unfold sT;split
 ·split
  ·split<;>(first|exact aM 0 ab rfl|exact aM 1 ab rfl|exact aM 2 ab rfl|exact aM 3 ab rfl|exact aM 4 ab rfl|exact aM 5 ab rfl|exact aM 6 ab rfl|exact aM 7 ab rfl|exact aM 8 ab rfl|exact aM 9 ab rfl)
  ·exact zK _ _
 ·exact oC _ _
theorem yL(N:aR)(its:List It):e9 (qS N its):=by
 unfold qS;split
 ·(first|exact aM 0 ab rfl|exact aM 1 ab rfl|exact aM 2 ab rfl|exact aM 3 ab rfl|exact aM 4 ab rfl|exact aM 5 ab rfl|exact aM 6 ab rfl|exact aM 7 ab rfl|exact aM 8 ab rfl|exact aM 9 ab rfl)
 ·split<;>(first|exact aM 0 ab rfl|exact aM 1 ab rfl|exact aM 2 ab rfl|exact aM 3 ab rfl|exact aM 4 ab rfl|exact aM 5 ab rfl|exact aM 6 ab rfl|exact aM 7 ab rfl|exact aM 8 ab rfl|exact aM 9 ab rfl)
theorem c9.check_code(q:c9):e9 q.checkZ:=by
 unfold c9.checkZ;split
 ·exact f9 _ _
 ·exact EQ _ _ _
theorem c9.val_code(q:c9):e9 q.valZ.2:=by
 unfold c9.valZ;split
 ·exact f9 _ _
 ·split
  ·(first|exact aM 0 ab rfl|exact aM 1 ab rfl|exact aM 2 ab rfl|exact aM 3 ab rfl|exact aM 4 ab rfl|exact aM 5 ab rfl|exact aM 6 ab rfl|exact aM 7 ab rfl|exact aM 8 ab rfl|exact aM 9 ab rfl)
  ·exact oC _ _
theorem c9.rep_code(q:c9):e9 q.repZ.2:=by
 unfold c9.repZ;split
 ·exact f9 _ _
 ·split
  ·split
   ·(first|exact aM 0 ab rfl|exact aM 1 ab rfl|exact aM 2 ab rfl|exact aM 3 ab rfl|exact aM 4 ab rfl|exact aM 5 ab rfl|exact aM 6 ab rfl|exact aM 7 ab rfl|exact aM 8 ab rfl|exact aM 9 ab rfl)
   ·exact zK _ _
  ·exact oC _ _
theorem c9.print_code(q:c9):e9 q.printZ.2:=by
 unfold c9.printZ;split
 ·exact f9 _ _
 ·(first|exact aM 0 ab rfl|exact aM 1 ab rfl|exact aM 2 ab rfl|exact aM 3 ab rfl|exact aM 4 ab rfl|exact aM 5 ab rfl|exact aM 6 ab rfl|exact aM 7 ab rfl|exact aM 8 ab rfl|exact aM 9 ab rfl)
theorem c9.items_code(q:c9):e9 q.itemsZ.2:=by
 unfold c9.itemsZ;split
 ·exact f9 _ _
 ·split
  ·(first|exact aM 0 ab rfl|exact aM 1 ab rfl|exact aM 2 ab rfl|exact aM 3 ab rfl|exact aM 4 ab rfl|exact aM 5 ab rfl|exact aM 6 ab rfl|exact aM 7 ab rfl|exact aM 8 ab rfl|exact aM 9 ab rfl)
  ·exact oC _ _
theorem vK{g:Gr}{sg e:Int}{l:LI_}(h:nY g sg e l):e9 e:=by
 have a:e9 (ex g):=by
  unfold ex;split
  ·(first|exact aM 0 ab rfl|exact aM 1 ab rfl|exact aM 2 ab rfl|exact aM 3 ab rfl|exact aM 4 ab rfl|exact aM 5 ab rfl|exact aM 6 ab rfl|exact aM 7 ab rfl|exact aM 8 ab rfl|exact aM 9 ab rfl)
  ·split<;>(first|exact aM 0 ab rfl|exact aM 1 ab rfl|exact aM 2 ab rfl|exact aM 3 ab rfl|exact aM 4 ab rfl|exact aM 5 ab rfl|exact aM 6 ab rfl|exact aM 7 ab rfl|exact aM 8 ab rfl|exact aM 9 ab rfl)
 rcases h with ⟨_,_,rfl,_⟩|⟨_,_,rfl,_⟩|⟨_,rfl,_⟩
 ·(first|exact aM 0 ab rfl|exact aM 1 ab rfl|exact aM 2 ab rfl|exact aM 3 ab rfl|exact aM 4 ab rfl|exact aM 5 ab rfl|exact aM 6 ab rfl|exact aM 7 ab rfl|exact aM 8 ab rfl|exact aM 9 ab rfl)
 ·(first|exact aM 0 ab rfl|exact aM 1 ab rfl|exact aM 2 ab rfl|exact aM 3 ab rfl|exact aM 4 ab rfl|exact aM 5 ab rfl|exact aM 6 ab rfl|exact aM 7 ab rfl|exact aM 8 ab rfl|exact aM 9 ab rfl)
 ·exact a
theorem c9.val_in{q:c9}(a:q.OK):b9 q.valZ.1:=by
 unfold c9.valZ;split
 ·unfold b9;simp only;omega
 ·rename_i c;split
  ·rename_i b;have:=dl (a.net (gZ (Nn.1 c))) b.toRanged q.N.snk;unfold b9;simp only;omega
  ·unfold b9;simp only;omega
theorem yI{N:aR}(a:N.Right){p k:Nat}{f:LI_}(h:Dn N 1 (List.replicate N.arcs.length 0) p k f):(k:Int)<=4611686018427387903/\(p:Int)<=4611686018427387903/\aD N f:=by
 obtain⟨b,c,e,_⟩:=h.keeps a ab (iS N a);have g:=dl a b.toRanged N.snk;have d:dJ (N.arcs.zip (List.replicate N.arcs.length 0)) N.snk=0:=nR N.arcs N.snk;rw[d] at c;exact⟨aa,aa,b⟩
def sz(o:List bP):Nat:=(o.map λ s=>s.length+1).sum
theorem uu(t:bP):sz (aK t)<=t.length+1:=by
 have:((aK t).map (·++[10])).flatten.length=sz (aK t):=by
  unfold sz;rw[List.length_flatten,OD]
  congr 1
  refine Oq λ x _=>?_;simp
 rcases B5 t with h|h
 ·rw[<- this,h];omega
 ·rw[<- this,h];simp
theorem sv(s:bP):sz [s]=s.length+1:=by simp[sz]
theorem w5{e:Int}(h:e9 e):(gG xc [e]).length<=30:=by
 have:=fi xc [e] λ n a=>by rw[Nh.1 a];exact h.inB
 simp only[xc,Nf,NA] at this ⊢;omega
theorem r3{e:Int}(h:e9 e):sz (j0 e)<=31:=by
 have:=w5 h;unfold j0;rw[sv];omega
theorem oH{e:Int}(h:e9 e){l:List bP}{b:Nat}(hl:sz l<=b)(a:31<=b):sz (cL e l)<=b:=by
 unfold cL;split
 ·exact Ot (r3 h) a
 ·exact hl
theorem lp(w:bP)(hw:w.length<=10){n:Int}(h:b9 n):(gG w [n]).length<=31:=by
 have:=fi w [n] λ m hm=>by rw[Nh.1 hm];exact h
 simp only[Nf,NA] at this ⊢;omega
theorem JQ{N:aR}(b:N.Right){f s:LI_}(c:aD N f)(d:fQ N s):(s7 f s (dJ (N.arcs.zip f) N.snk) (jq s N.arcs)).length<=1000000:=by
 have e:=aD.inB b c.toRanged;have hl:=b.len;have a:=b.nodes;have l:=c.len;have m:=vO a.2 ⟨d.rise,d.rng⟩;have p:=AD f e f.length (Np _) aa;have q:=Cg s (λ x o=>by have:=d.rng x o;unfold b9;omega) s.length (Np _);have g:b9 (dJ (N.arcs.zip f) N.snk):=by have:=dl b c.toRanged N.snk;unfold b9;omega
 have h:b9 (jq s N.arcs):=by have:=w4 b s;unfold b9;omega
 have i:=hJ [118,97,108,117,101] [dJ (N.arcs.zip f) N.snk] (λ n a=>by rw[Nh.1 a];exact g);have j:=hJ [99,117,116] [jq s N.arcs] (λ n a=>by rw[Nh.1 a];exact h)
 have k:(vG (dJ (N.arcs.zip f) N.snk) (jq s N.arcs)).length<=20:=by
  unfold vG;split
  ·have:=hJ [112,114,111,118,101,100] [] (λ n a=>absurd a Nr);simp only[Nf,NA] at this ⊢;omega
  ·have:=hJ [110,111,116,32,112,114,111,118,101,100] [] (λ n a=>absurd a Nr);simp only[Nf,NA] at this ⊢;omega
 unfold s7 me;simp only[Ng];simp only[Nf,NA] at i j;omega
theorem sw{N:aR}(b:N.Right):(jf N).length<=1000000:=by
 have c:=b.fits4;have d:=Gn N c;have e:=GI N c N.arcs λ a h=>h;have:=b.len;unfold jf;rw[Ng];omega
theorem vN{N:aR}(a:N.Right){v p k:Int}(b:b9 v)(hp:b9 p)(c:b9 k):sz (ut N v p k)<=200:=by
 have d:=rL a.nodes.1 a.nodes.2 (by have:=a.len;omega);have e:=lp jK ab b;have f:=lp [112,104,97,115,101,115] ab hp;have g:=lp [119,97,108,107,115] ab c;have h:=lp [98,111,117,110,100] ab (n:=lL N) (by unfold b9;omega);unfold ut;rw[sv,wj];simp only[Ns,Oi,Oy,List.flatten_nil,Ng,Nf,NA];omega
theorem oK(w:bP)(hw:w.length<=10){l:LI_}(h:∀ x∈l,b9 x)(hl:l.length<=2000):(gG w l).length<=42010:=by
 have:=fi w l h;omega
theorem c9.items_len{q:c9}(i:q.OK):(∀ x∈q.itemsZ.1,l7 q.N x)/\q.itemsZ.1.length<=2001/\(Proofs.YtmcnpaelaieniaaGreatDoor.d8 q.N q.itemsZ.1).length<=85000000:=by
 by_cases c:q.lack [false]≠0\/¬ aD q.N q.f
 ·have e:q.itemsZ.1=[]:=by
   unfold c9.itemsZ;split
   ·rfl
   ·rename_i h;rw[if_neg (c.resolve_left h)]
  rw[e];exact⟨λ x j=>absurd j Nr,Nk _,by simp[Proofs.YtmcnpaelaieniaaGreatDoor.d8]⟩
 ·obtain⟨a,c2⟩:=not_or.1 c;have b:=Nn.1 c2;have d:=i.net (gZ (Nn.1 a))
  have e:q.itemsZ.1=r5 q.N q.f:=by
   unfold c9.itemsZ;rw[if_neg a,if_pos b]
  rw[e];obtain⟨k,g⟩:=Ib d b;have l:=Proofs.YtmcnpaelaieniaaGreatDoor.r7 d g;exact⟨g,k,aa⟩
theorem Gq{q:c9}(a:q.OK):sz q.itemsT<=90000000:=by
 obtain⟨_,_,b⟩:=q.items_len a;unfold c9.itemsT;split
 ·have:=r3 q.items_code;omega
 ·exact oH (yL _ _) (by have:=uu (Proofs.YtmcnpaelaieniaaGreatDoor.d8 q.N q.itemsZ.1);omega) aa
theorem ur{q:c9}(a:q.OK){l:LB_}(h:¬ q.lack l≠0):q.N.Right:=a.net (gZ (Nn.1 h))
theorem c9.rep_len{q:c9}(a:q.OK):q.repZ.1.length<=1000000:=by
 unfold c9.repZ;split
 ·simp
 ·rename_i c;split
  ·rename_i b;split
   ·rename_i d;exact Proofs.YtmcnpaelaieniaaGreatDoor.JQ (ur a c) b d
   ·simp
  ·simp
theorem c9.print_len{q:c9}(a:q.OK):q.printZ.1.length<=1000000:=by
 unfold c9.printZ;split
 ·simp
 ·rename_i c;exact Proofs.YtmcnpaelaieniaaGreatDoor.sw (ur a c)
theorem FJ{q:c9}(a:q.OK){t w:bP}(r:t.length<=9999999){o:List bP}{i:c9}{t1:bP}(h:eJ q t w o i t1):sz o<=90000000:=by
 have c:sz nn<=31:=ab;unfold eJ at h;split at h
 ·obtain⟨_,⟨d,_,rfl⟩|⟨_,_,rfl⟩⟩:=h
  ·obtain⟨_,g,s⟩:=v8 d;have u:=vj t;have x:=w5 (ua t);have y:=lp [108,105,110,101] ab (n:=((cR t).2.1:Int)) (by unfold b9;omega);rw[sv];simp only[Ng,Nf,NA];omega
  ·omega
 ·obtain⟨_,_,h⟩:=h;split at h
  ·subst h;have:=oH q.check_code c (Np _);omega
  split at h
  ·subst h;have:=lp jK ab (q.val_in a);have:=oH q.val_code (l:=[gG jK [q.valZ.1]]) (b:=40) (by rw[sv];omega) aa;omega
  split at h
  ·subst h;exact Gq a
  split at h
  ·subst h;have g:=q.rep_len a;have:=oH q.rep_code (l:=aK q.repZ.1) (b:=1000001) (by have:=uu q.repZ.1;omega) aa;omega
  split at h
  ·subst h;have g:=q.print_len a;have:=oH q.print_code (l:=aK q.printZ.1) (b:=1000001) (by have:=uu q.printZ.1;omega) aa;omega
  split at h
  ·rcases h with ⟨_,rfl⟩|⟨d,f,p,k,j,rfl⟩
   ·have:=r3 (f9 q []);omega
   ·have e:=a.net (gZ d);obtain⟨z,hp,m⟩:=yI e j;have A:=dl e m.toRanged q.N.snk;have:=vN e (v:=dJ (q.N.arcs.zip f) q.N.snk) (p:=p) (k:=k) (by unfold b9;omega) (by unfold b9;omega) (by unfold b9;omega);omega
  ·subst h;decide
theorem GD{ws:Ws}(hl:ws.length<=3000){o:List bP}(h:ia ws o):sz o<=1000000:=by
 unfold ia at h;split at h
 ·subst h;decide
 ·obtain⟨e,l,g,i,c,j,k,q,a2,a3,rfl⟩:=h;have d:(fX (aS (ws.drop 1)).1).Fits:=pT lo (by have:=o5 (ws.drop 1);rw[List.length_drop] at this;omega);obtain⟨g1,g2,g3⟩:=c.good d;refine oH (vK c) ?_ ab;by_cases he:e=0
  ·obtain⟨b,hM,_⟩:=g3 he;have f:=j he;have m:=oK [112,97,105,114,115] ab (vu d hM) aa;have n:=oK [108,101,102,116] ab (l:=g) (λ x a=>by have:=f.isl.rng x a;have:=b.left;unfold b9;omega) aa;have p:=oK [114,105,103,104,116] ab (l:=i) (λ x a=>by have:=f.isr.rng x a;have:=b.right;unfold b9;omega) aa;simp only[sz,Ns,Oi,NC,List.sum_nil];omega
  ·obtain⟨rfl,rfl⟩:=k he;obtain rfl:=g2 he;have m:=oK [112,97,105,114,115] (l:=[]) ab (λ x a=>absurd a Nr) ai;have n:=oK [108,101,102,116] (l:=[]) ab (λ x a=>absurd a Nr) ai;have p:=oK [114,105,103,104,116] (l:=[]) ab (λ x a=>absurd a Nr) ai;simp only[sz,Ns,Oi,NC,List.sum_nil];omega
theorem L8{q:c9}(a:q.OK){t line w:bP}{ws:Ws}(hl:ws.length<=3000)(d:t.length<=9999999){o:List bP}{g:c9}{t1:bP}(h:ql q t line w ws o g t1):sz o<=90000000:=by
 have i:sz nn<=31:=ab;have j:sz eH<=31:=ab;have he:=λ l=>r3 (f9 q l);unfold ql at h;split at h
 ·rw[h.2.2];decide
 split at h
 ·obtain⟨_,h⟩:=h;split at h
  ·unfold j8 at h;split at h
   ·rw[h.2];have:=he [];omega
   ·split at h
    ·rw[h.2];have:=r3 (e:=6) (by unfold e9;decide);omega
    ·rw[h.2];omega
  ·rw[h.2];omega
 split at h
 ·obtain⟨_,h⟩:=h;split at h
  ·unfold kB at h;split at h
   ·rw[h.2];have:=he [];omega
   ·rw[h.2];omega
  ·rw[h.2];omega
 split at h
 ·obtain⟨_,h⟩:=h;split at h
  ·unfold ga at h;split at h
   ·rw[h.2];have:=he [];omega
   ·rename_i c;split at h
    ·obtain⟨f,s,k,_,_,rfl⟩:=h;have b:=ur a c;have m:=dl b (k.max b).1.toRanged q.N.snk;have:=lp jK ab (n:=dJ (q.N.arcs.zip f) q.N.snk) (by unfold b9;omega);rw[sv];omega
    ·rw[h.2];have:=r3 (e:=1) (by unfold e9;decide);omega
  ·rw[h.2];omega
 split at h
 ·have:=GD hl h.2.2;omega
 split at h
 ·exact FJ a d h
 ·rw[h.2.2];omega
theorem Jk{q:c9}(b:q.OK){t line:bP}(hl:line.length<=3000)(c:t.length<=9999999){o:List bP}{d:c9}{t1:bP}(h:dr q t line o d t1):sz o<=90000000:=by
 have hw:=kJ line;unfold dr at h
 cases a:bI line with
 |nil=>rw[a] at h;rw[h.2.2];decide
 |cons w ws=>
  rw[a] at h hw;simp only at h;split at h
  ·rw[h.2.2];decide
  ·exact L8 b (by rw[Nf] at hw;omega) c h
theorem CQ:∀ {ls:List bP} {q:c9} (_:q.OK) {t:bP} (_:∀ l∈ls,l.length<=3000) (_:t.length+ls.length*3001<=9999999) {os:List (List bP)} {c:c9} {t1:bP},ka q t ls os c t1->∀ o∈os,sz o<=90000000
 |[],_,_,_,_,_,_,_,_,⟨rfl,_,_⟩,o,a=>absurd a Nr
 |l::ls,q,d,t,hl,f,_,_,_,⟨j,g,c,t1,b,h,rfl⟩,o,a=>by
  have e:=hl l ai;rw[Nf] at f
  rcases Nl.1 a with rfl|a
  ·exact Jk d e aa b
  ·exact CQ (dr.ok d e b) (λ x i=>hl x (by simp[i])) (by have:=dr.txt b;omega) h o a
end Go.Proofs.YtmcnpaelaieniaaGreatDoor
