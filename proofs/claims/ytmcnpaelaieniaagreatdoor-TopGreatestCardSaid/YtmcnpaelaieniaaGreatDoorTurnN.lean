import Derived.Test.YtmcnpaelaieniaaGreatDoorQF
import Derived.Test.YtmcnpaelaieniaaGreatDoorQB
/- A part of the proof; see NOTES.md. -/
set_option linter.unusedVariables false
set_option linter.unusedSimpArgs false
namespace Go.Proofs.YtmcnpaelaieniaaGreatDoor
open Go.RowKit
def gR(a:dI):dI:=⟨a.to,a.fr,a.cap⟩
def dV(N:aU):aU:=⟨N.nodes,N.snk,N.src,N.arcs.map gR⟩
theorem wv{N:aU}(h:N.Right):(dV N).Right:=by
 refine⟨h.nodes,h.snk,h.src,h.diff.symm,by simp[dV];exact h.len,λ a ha=>?_,?_⟩
 ·obtain⟨x,hx,rfl⟩:=GR.1 ha;obtain⟨h1,h2,h3⟩:=h.arc x hx;exact⟨h2,h1,h3⟩
 ·have:(dV N).arcs.map (·.cap)=N.arcs.map (·.cap):=by simp only[dV,List.map_map];rfl
  rw[this];exact h.sum
theorem yY{N:aU}(h:N.Fits):(dV N).Fits:=by
 refine⟨h.nodes,h.snk,h.src,by simp[dV];have:=h.len;omega,λ a ha=>?_⟩;obtain⟨x,hx,rfl⟩:=GR.1 ha;obtain⟨h1,h2,h3⟩:=h.arc x hx;exact⟨h2,h1,h3⟩
theorem xk:∀ (l:List dI) (f:LI) (v:Int),cS ((l.map gR).zip f) v=-cS (l.zip f) v
 |[],_,_=>by simp[cS]
 |a::l,[],_=>by simp[cS]
 |a::l,x::f,v=>by
  have ih:=xk l f v;simp only[cS] at ih;simp only[cS,GG,H7,GT,gR];omega
theorem rQ:∀ (l:List dI) (f:LI),aP ((l.map gR).zip f)=aP (l.zip f)
 |[],_=>by simp[aP]
 |a::l,[]=>by simp[aP]
 |a::l,x::f=>by
  have ih:=rQ l f;unfold aP at*;simp only[GG,H7,List.flatMap_cons,ih,gR]
theorem zq{N:aU}{f:LI}(h:aK N f):aK (dV N) f:=by
 refine⟨⟨by simp[dV];exact h.len,λ p hp=>?_⟩,λ v hv h1 h2=>?_⟩
 ·obtain⟨i,hi,hip⟩:=List.mem_iff_getElem.1 hp;have hz:((dV N).arcs.zip f)[i]?=some p:=by rw[List.getElem?_eq_getElem hi,hip]
  change ((N.arcs.map gR).zip f)[i]?=some p at hz;obtain⟨g1,g2⟩:=G7.1 hz;rw[GC] at g1
  cases ha:N.arcs[i]? with
  |none=>rw[ha] at g1;simp at g1
  |some a=>
   rw[ha] at g1;have e:gR a=p.1:=by simpa using g1
   have:=h.all (a,p.2) (Gu (G7.2 ⟨ha,g2⟩));rw[<- e];exact this
 ·show cS ((N.arcs.map gR).zip f) v=0;rw[xk,h.kept v hv h2 h1];rfl
theorem nC(N:aU)(r:Nat):b8 (dV N) r=((b8 N r).2,(b8 N r).1):=by
 unfold b8;simp only[dV,GC]
 cases N.arcs[r/2]? with
 |none=>rfl
 |some a=>
  show cV (gR a) r=((cV a r).2,(cV a r).1);unfold cV gR;split<;>rfl
theorem pL:∀ (l:List dI) (k:Nat) (a:dI) (x:Int),l[k]?=some a->(arcs l).set (k*3) (.int .i64 x)=arcs (l.set k ⟨x,a.to,a.cap⟩)/\(arcs l).set (k*3+1) (.int .i64 x)=arcs (l.set k ⟨a.fr,x,a.cap⟩)
 |[],_,_,_,h=>by simp at h
 |b::l,0,a,x,h=>by
  simp only[HB,Gs] at h;subst h;exact⟨rfl,rfl⟩
 |b::l,k+1,a,x,h=>by
  obtain⟨h1,h2⟩:=pL l k a x (by simpa using h);have e:∀ (c:dI) (m:List dI),arcs (c::m)=.int .i64 c.fr::.int .i64 c.to::.int .i64 c.cap::arcs m:=λ c m=>by simp[arcs]
  refine⟨?_,?_⟩
  ·rw[show (b::l).set (k+1) ⟨x,a.to,a.cap⟩=b::l.set k ⟨x,a.to,a.cap⟩ from rfl,e,e,<- h1,show (k+1)*3=k*3+1+1+1 by omega];rfl
  ·rw[show (b::l).set (k+1) ⟨a.fr,x,a.cap⟩=b::l.set k ⟨a.fr,x,a.cap⟩ from rfl,e,e,<- h2,show (k+1)*3+1=k*3+1+1+1+1 by omega];rfl
theorem yp(A:OA)(c b o:Nat)(l:List dI)(hA:l≠[]->A=some ⟨b,o,none⟩)(hl:l.length<=100000):
 Fn 113 [.slice A l.length c] [] [.seg b o (arcs l)] λ v H'=>∃ (A':OA) (c':Nat),v=.slice A' l.length c'/\H'=[.own (.slice A' l.length c') 37 3 l.length (arcs l)]:=by
 refine aJ Tryz.func113 rfl rfl λ w0=>?_;refine ad (aa (ae [] rfl ?_));refine ad (ad (aa (ah [] rfl ?_)));refine ab [] (og rfl rfl rfl rfl) rfl ?_;refine ai ?_
 cases A with
 |none=>
  have h0:l=[]:=Hg λ h=>by have:=hA h;simp at this
  subst h0;refine bi rfl ?_;refine ad (aa (ae [] rfl ?_));refine cd 37 3 ?_;exact az [0] (by decide) rfl (ay ⟨_,rfl,none,0,rfl,rfl⟩)
 |some a=>
  refine bG rfl (aq ?_);refine ad (aa ?_);refine bF rfl rfl rfl rfl rfl rfl rfl (λ _=>rfl) λ g=>?_;refine fb 3 0 rfl (by decide) ?_;refine ah [] rfl ?_;refine bv (n:=0) (m:=l.length) (off:=o) (b:=b) (news:=arcs l) 0 1 rfl rfl rfl rfl rfl rfl (by decide) rfl rfl (ak _ _ _) (λ h=>hA (λ e=>h (by rw[e];rfl))) (by rw[gQ]) (B6 l) (by omega) (by omega) (λ _ _=>rfl) λ A2 c2=>?_;rw[GZ];refine ae [] rfl ?_;exact az [0] (by decide) rfl (ay ⟨_,rfl,A2,c2,rfl,rfl⟩)
theorem Dd(N:aU)(hl2:N.arcs.length<=100000)(A:OA)(c b o:Nat)(hA:N.arcs≠[]->A=some ⟨b,o,none⟩):
 Fn 90 [bp N A c] [] [.seg b o (arcs N.arcs)] λ v H'=>∃ (A':OA) (c':Nat),v=bp N A' c'/\H'=[.own (.slice A' N.arcs.length c') 37 3 N.arcs.length (arcs N.arcs)]:=by
 refine iN Tryz.func90 rfl rfl λ w0=>?_;refine ad (aa ?_);refine bx (cs:=bI N A c) rfl rfl rfl (λ _=>rfl) λ p1=>?_;refine bo rfl rfl rfl (λ _=>rfl) λ p2=>?_;refine ae [] rfl ?_;refine ad (aa (ah [] rfl ?_))
 (first|refine ab [] (af 0 rfl) rfl ?_|refine ab [] (af 1 rfl) rfl ?_|refine ab [] (af 2 rfl) rfl ?_|refine ab [] (af 3 rfl) rfl ?_|refine ab [] (af 4 rfl) rfl ?_|refine ab [] (af 5 rfl) rfl ?_|refine ab [] (af 6 rfl) rfl ?_|refine ab [] (af 7 rfl) rfl ?_)
 refine ap [] (yp A c b o N.arcs hA hl2) rfl (by kernel_rfl) ⟨⟨2,_,by simp,rfl,ak _ _ _,av⟩,an⟩ (λ _=>rfl) ?_;rintro v H' ⟨A',c',rfl,rfl⟩;refine⟨rfl,?_⟩;refine ah [] rfl ?_;refine aA 2 rfl [] rfl ?_;refine ai ?_;refine ad (aa ?_);refine ab [] (v:=bp N A' c') (af 2 rfl) rfl ?_;refine aA 1 rfl [] rfl ?_;refine ai ?_;refine ay ?_;exact⟨[_],[0],_,⟨⟨p2,1,_,_,rfl,rfl,rfl⟩,an⟩,by decide,rfl,A',c',rfl,rfl⟩
set_option maxHeartbeats 1000000 in
theorem Bf(N:aU)(hl2:N.arcs.length<=100000)(A:OA)(c b o:Nat)(hA:N.arcs≠[]->A=some ⟨b,o,none⟩):
 Fn 48 [bp N A c] [] [.seg b o (arcs N.arcs)] λ v H'=>∃ (A':OA) (c':Nat),v=bp (dV N) A' c'/\H'=[.own (.slice A' (dV N).arcs.length c') 37 3 (dV N).arcs.length (arcs (dV N).arcs)]:=by
 refine iN Tryz.func48 rfl rfl λ w0=>?_;refine ad (aa ?_);refine bx (cs:=bI N A c) rfl rfl rfl (λ _=>rfl) λ p1=>?_;refine bo rfl rfl rfl (λ _=>rfl) λ p2=>?_;refine ae [] rfl ?_;refine ad (aa ?_);refine ab [] (v:=bp N A c) (af 1 rfl) rfl ?_;refine ap [] (Dd N hl2 A c b o hA) rfl (by kernel_rfl) ⟨⟨2,_,by simp,rfl,ak _ _ _,av⟩,an⟩ (λ _=>rfl) ?_;rintro v H' ⟨A',c',rfl,rfl⟩;refine⟨rfl,?_⟩;refine aA 2 rfl [] rfl ?_;refine ai ?_;refine ad (aa (ah [] rfl ?_))
 (first|refine ab [] (af 0 rfl) rfl ?_|refine ab [] (af 1 rfl) rfl ?_|refine ab [] (af 2 rfl) rfl ?_|refine ab [] (af 3 rfl) rfl ?_|refine ab [] (af 4 rfl) rfl ?_|refine ab [] (af 5 rfl) rfl ?_|refine ab [] (af 6 rfl) rfl ?_|refine ab [] (af 7 rfl) rfl ?_)
 refine ah [] rfl ?_
 (first|refine ab [] (af 0 rfl) rfl ?_|refine ab [] (af 1 rfl) rfl ?_|refine ab [] (af 2 rfl) rfl ?_|refine ab [] (af 3 rfl) rfl ?_|refine ab [] (af 4 rfl) rfl ?_|refine ab [] (af 5 rfl) rfl ?_|refine ab [] (af 6 rfl) rfl ?_|refine ab [] (af 7 rfl) rfl ?_)
 refine ah [] rfl ?_;refine aA 2 rfl [] rfl ?_;refine ah [] rfl ?_;refine aA 2 rfl [] rfl ?_;refine ai ?_;refine ad (ad (aa (ah [] rfl ?_)))
 (first|refine ab [] (af 0 rfl) rfl ?_|refine ab [] (af 1 rfl) rfl ?_|refine ab [] (af 2 rfl) rfl ?_|refine ab [] (af 3 rfl) rfl ?_|refine ab [] (af 4 rfl) rfl ?_|refine ab [] (af 5 rfl) rfl ?_|refine ab [] (af 6 rfl) rfl ?_|refine ab [] (af 7 rfl) rfl ?_)
 refine ae [] rfl ?_;refine au ?_
 refine bO (σ:=Nat) (λ k=>[(16,.int .i64 k),(15,.int .i64 N.arcs.length),(14,.slice A' N.arcs.length c'),(2,.pointer (some ⟨p2,0,none⟩)),(1,.pointer (some ⟨p1,0,none⟩))])
  (λ k=>[.own (.slice A' N.arcs.length c') 37 3 N.arcs.length (arcs ((N.arcs.take k).map gR++N.arcs.drop k)),blk p2 33 [.int .i64 0,.int .i64 0,.int .i64 0,.slice none 0 0],blk p1 33 [.int .i64 N.nodes,.int .i64 N.snk,.int .i64 N.src,.slice A' N.arcs.length c']])
  (λ k=>k<=N.arcs.length) (λ k=>N.arcs.length-k) 0 [0,1,2] ⟨rfl,rfl,rfl,rfl,rfl,an⟩ (by decide) rfl (GB _) ?_
 intro k hk;refine ad (aa (ae [] rfl ?_));refine ad (aC rfl (λ hlt=>aq ?_) (λ hge=>bc ?_))
 ·have hlt:k<N.arcs.length:=by omega
  obtain⟨a,ha⟩:∃ a,N.arcs[k]?=some a:=⟨N.arcs[k]'(by omega),Gq (by omega)⟩;obtain⟨l,hl⟩:∃ l,l=(N.arcs.take k).map gR++N.arcs.drop k:=⟨_,rfl⟩;have htl:((N.arcs.take k).map gR).length=k:=by rw[GA,GV];omega
  have hla:l[k]?=some a:=by rw[hl,GL (by omega),htl,HC,Hu,HZ];exact ha
  have hll:l.length=N.arcs.length:=by rw[hl,Gx,htl,Ht];omega
  have hnext:(N.arcs.take (k+1)).map gR++N.arcs.drop (k+1)=l.set k (gR a):=by
   have hd:N.arcs.drop k=a::N.arcs.drop (k+1):=by
    obtain⟨h1,h2⟩:=Gv.1 ha;rw[Hf h1,h2]
   rw[hl,hd,HJ _ _ (by omega),htl,HC,HU,GO,ha,GX,G4];rfl
  rw[<- hl];have s1:=(pL l k a a.to hla).1;have hl1:(l.set k ⟨a.to,a.to,a.cap⟩)[k]?=some ⟨a.to,a.to,a.cap⟩:=GH (by omega);have s2:=(pL (l.set k ⟨a.to,a.to,a.cap⟩) k ⟨a.to,a.to,a.cap⟩ a.fr hl1).2;rw[List.set_set] at s2;refine bh (aW 0 rfl) λ ⟨_,_,hA1,_⟩=>?_;obtain⟨g,rfl⟩:=hA1 (by omega);refine ad (au ?_);refine ad (aa (ah [] rfl ?_));refine ab [] (aN rfl hlt) rfl ?_;refine ab [] (aD 0 rfl rfl rfl (eY hla)) rfl ?_;refine bo rfl rfl rfl (λ _=>rfl) λ p4=>?_;refine ah [] rfl ?_;refine aA 0 rfl [] rfl ?_;refine ai ?_;refine bu 15 (cZ [0,1,2,3,4,5,6,7,8,9,10,11]++[(12,false)]++cZ [13,14]) [0,3] (by kernel_rfl) (by decide) rfl ?_;refine aB [] rfl ?_;refine aj [] rfl (af (v:=.slice (some ⟨g,0,none⟩) N.arcs.length c') 1 rfl) rfl ?_;refine aB [] rfl ?_;refine aj [] rfl (af (v:=.slice (some ⟨g,0,none⟩) N.arcs.length c') 1 rfl) rfl ?_;refine aB [] rfl ?_;refine aj [] rfl (af (v:=.int .i64 a.to) 0 rfl) rfl ?_;refine aB [] rfl ?_;refine aj [] rfl (af (v:=.int .i64 a.fr) 0 rfl) rfl ?_;refine aj [] rfl (aN rfl hlt) rfl ?_;refine aB [] rfl ?_;refine bg rfl ?_;refine aO 1 rfl rfl rfl rfl (df rfl rfl rfl (by rw[gQ];omega)) [] rfl ?_;refine ai ⟨⟨[0,3],by decide,rfl⟩,?_⟩;refine aj [] rfl (aN rfl hlt) rfl ?_;refine dw [] rfl ?_;rw[show k*3+0=k*3 from rfl,s1];refine aO 1 rfl rfl rfl rfl (df rfl rfl rfl (by rw[gQ,Ha];omega)) [] rfl ?_;rw[s2];refine ai ?_;refine aa (ae [] rfl ?_);refine⟨k+1,[1,2,3],⟨?_,rfl,rfl,rfl,rfl,an⟩,by decide,by rw[hnext];rfl,by omega,by omega⟩;show some (Value.int .i64 (IntKind.i64.wrap ((k:Int)+1)))=_;rw[cv (by omega)];rfl
 ·have hkm:k=N.arcs.length:=by omega
  have hfin:(N.arcs.take k).map gR++N.arcs.drop k=(dV N).arcs:=by
   rw[Hr (by omega),List.drop_of_length_le (by omega),G5];rfl
  have hfl:(dV N).arcs.length=N.arcs.length:=by simp[dV]
  rw[hfin];refine ad (aa ?_);refine ab [] (v:=.agg #[.int .i64 N.nodes,.int .i64 N.snk,.int .i64 N.src,.slice A' N.arcs.length c']) (af 2 rfl) rfl ?_;refine aA 1 rfl [] rfl ?_;refine ai ?_;refine ay ?_;refine⟨[_],[0],_,⟨⟨p2,1,_,_,rfl,rfl,rfl⟩,an⟩,by decide,rfl,A',c',?_,?_⟩
  ·show _=Value.agg #[.int .i64 N.nodes,.int .i64 N.snk,.int .i64 N.src,.slice A' (dV N).arcs.length c'];rw[hfl];rfl
  ·rw[hfl]
theorem CU(N:aU)(hN:N.Fits)(hR:N.Right)(A:OA)(c b o:Nat)(hA:N.arcs≠[]->A=some ⟨b,o,none⟩)(f:LI)(F:OA)(cf bf of:Nat)(hF:f≠[]->F=some ⟨bf,of,none⟩)(hf:∀ x∈f,dn x)(hfl:f.length*8<=140737488351232)
 (n:Nat) (hn:N.nodes=n) (hW:aK N f):Fn 25 [bp N A c,.slice F f.length cf] [] [.seg b o (arcs N.arcs),.seg bf of (ax f)] λ v H'=>
  (kL N (aP (N.arcs.zip f)) 1 N.snk/\v=.tuple #[.slice none 0 0,.int .i64 8]/\H'=[])\/¬ kL N (aP (N.arcs.zip f)) 1 N.snk/\∃ (l:LB) (A':OA) (c':Nat),l.length=n+1/\(∀ v:Nat,l[v]?=some true↔v<=n/\kL (dV N) (aP (N.arcs.zip f)) 1 v)/\v=.tuple #[.slice A' (bX l false (n+1)).length c',.int .i64 0]/\
   H'=[.own (.slice A' (bX l false (n+1)).length c') 3 1 (bX l false (n+1)).length (ax (bX l false (n+1)))]:=by
 have hl2:=hR.len;have hnn:=hR.nodes;refine aJ Tryz.func25 rfl rfl λ w0=>?_;refine ad (aa ?_);refine bx (cs:=bI N A c) rfl rfl rfl (λ _=>rfl) λ p=>?_;refine ae [] rfl ?_;refine ad (ad (aa ?_));refine ab [] (v:=bp N A c) (af 0 rfl) rfl ?_;refine ah [] rfl ?_;refine ap [] (mT N hN hR A c b o hA f F cf bf of hF hf hfl n hn) rfl (by kernel_rfl) ⟨⟨1,_,by simp,rfl,ak _ _ _,av⟩,⟨2,_,by simp,rfl,ak _ _ _,av⟩,an⟩ (λ _=>rfl) ?_;rintro v H' (⟨_,hno,l1,A1,c1,_,_,rfl,rfl⟩|⟨h,_,_⟩|⟨_,h,rfl,rfl⟩)
 case inr.inl=>exact absurd hW h
 case inr.inr=>
  refine⟨rfl,?_⟩;refine ae [] rfl ?_;refine ad (aa (ae [] rfl ?_));refine aC rfl (λ _=>?_) (λ h=>absurd h (by decide));refine ad (aa (ae [] rfl ?_));refine az [] (by decide) rfl (ay ⟨_,rfl,.inl ⟨h,rfl,rfl⟩⟩)
 refine⟨rfl,?_⟩;refine ae [] rfl ?_;refine ad (aa (ae [] rfl ?_));refine aC rfl (λ h=>absurd rfl h) (λ _=>aq ?_);refine ad (aa ?_);refine ab [] (v:=bp N A c) (af 1 rfl) rfl ?_;refine ap [] (Bf N (by omega) A c b o hA) rfl (by kernel_rfl) ⟨⟨2,_,by simp,rfl,ak _ _ _,av⟩,an⟩ (λ _=>rfl) ?_;rintro v H' ⟨A2,c2,rfl,rfl⟩;refine⟨rfl,?_⟩;refine eu (aW 0 rfl) λ ⟨_,_,hA2,hlA2⟩=>?_;obtain⟨g2,hA2⟩:=bL hA2 hlA2;have hA2':(dV N).arcs≠[]->A2=some ⟨g2,0,none⟩:=λ h=>hA2 (λ h0=>h (GM.1 (by have:=gQ (dV N).arcs;rw[h0] at this;simp at this;omega)));refine ah [] rfl ?_;refine ap [] (tz (dV N) (yY hN) (wv hR) A2 c2 g2 0 hA2' f F cf bf of hF hf hfl 1 (by decide) n hn) rfl (by kernel_rfl) ⟨⟨0,_,by simp,rfl,aE hA2,aM hA2⟩,⟨4,_,by simp,rfl,ak _ _ _,av⟩,an⟩ (λ _=>rfl) ?_;rintro v H' (⟨_,_,l,g,hl,hlr,rfl,rfl⟩|⟨h,_,_⟩|⟨_,h1,_,_⟩)
 case inr.inl=>exact absurd (zq hW) h
 case inr.inr=>omega
 refine⟨rfl,?_⟩;refine ae [] rfl ?_;refine ad (aa (ah [] rfl ?_));have T:=ud (some ⟨g,0,none⟩) (n+1) g 0 l (λ _=>rfl) (by omega) false;rw[hl] at T;refine b9 [] T rfl rfl rfl rfl (by kernel_rfl) ⟨⟨0,_,by simp,rfl,cp,.inr rfl⟩,an⟩ (λ _=>rfl) ?_;rintro v H' ⟨A',c',rfl,rfl⟩;refine⟨rfl,?_⟩;refine ae [] rfl ?_;refine az [0] (by decide) rfl (ay ⟨_,rfl,.inr ⟨hno,l,A',c',hl,λ v=>?_,rfl,rfl⟩⟩);have:=hlr v;rw[show (dV N).arcs=N.arcs.map gR from rfl,rQ] at this;exact this
end Go.Proofs.YtmcnpaelaieniaaGreatDoor
