/- The engine and the words that all chapters share: several texts in one. -/
import Derived.Test.YtpbmihpjgjbndaaGreatQX27
import Derived.Test.YtpbmihpjgjbndaaGreatQX26
import Derived.Test.YtpbmihpjgjbndaaGreatQX23
import Derived.Test.YtpbmihpjgjbndaaGreatQX16
/- dinic.From and dinic.Max of any network, any amounts, any least room, any engine. -/
set_option linter.unusedVariables false
set_option linter.unusedSimpArgs false
namespace Go.Proofs.YtpbmihpjgjbndaaGreat
open Go.RowKit
def xG (N:bt) (f:List Int) (least:Int) (v:Value) (H':Heap):Prop:=
 (dM N f least=0∧∃ d:Int,v=pZ (d,0)∧H'=[])∨(dM N f least≠0∧∃ d:Int,v=pZ (d,dM N f least)∧H'=[])
theorem tU (N:bt) (hN:N.Fits) (A:Option Addr) (c b o:Nat) (hA:N.arcs≠[]→A=some ⟨b,o,none⟩) (f:List Int) (F:Option Addr) (cf bf of:Nat) (hF:f≠[]→F=some ⟨bf,of,none⟩) (hf:∀ x∈f,dw x) (hfl:f.length*8≤140737488351232) (least:Int):
 Fn 52 [bi N A c,.slice F f.length cf,.int .i64 least] [] [.seg b o (arcs N.arcs),.seg bf of (aw f)] (xG N f least):=by
 by_cases hz:bW N=0
 ·have hR:=jd hz
  refine (kG N hN hR A c b o hA f F cf bf of hF hf hfl least).mono ?_
  rintro v H' (⟨h1,h2,lv,hlv,rfl,rfl⟩|⟨h1,rfl,rfl⟩|⟨h1,h2,rfl,rfl⟩)
  ·exact .inl ⟨dB.2 ⟨hR,h1,h2⟩,_,rfl,rfl⟩
  ·obtain⟨e1,e2⟩:=tB (least:=least) hR h1
   exact .inr ⟨by rw[e1];exact e2,_,by rw[e1],rfl⟩
  ·have e1:=jF (N:=N) (f:=f) (dH.2 ⟨hR,h1⟩) h2
   exact .inr ⟨by rw[e1];decide,_,by rw[e1],rfl⟩
 ·refine (uX N hN hz A c b o hA f F cf bf of hF hf hfl least).mono ?_
  rintro v H' ⟨rfl,rfl⟩
  have e1:=qC (f:=f) (least:=least) hz
  exact .inr ⟨by rw[e1];exact hz,_,by rw[e1],rfl⟩
theorem qI (sg:Int) (h1:sg≠112) (h2:sg≠116):Fn 53 [.int .u8 sg] [] [] fun v H'=>v=.nilIface∧H'=[]:=by
 refine aM Tryz.func53 rfl rfl fun w0=>?_
 refine ae (aa (af [] rfl ?_))
 refine ae (ae (aa (af [] rfl ?_)))
 refine au (ae (aa (af [] rfl ?_)))
 refine aC rfl (fun h=>absurd h h1) (fun _=>?_)
 refine ae (aa (af [] rfl ?_))
 refine aC rfl (fun h=>absurd h h2) (fun _=>?_)
 refine aq (ae ?_)
 (repeat' (first
  |refine af [] rfl ?_
  |refine tq rfl rfl rfl rfl (fun _=>?_) (fun _=>?_)
  |refine ao (gs:=[999]) rfl ?_
  |refine tP rfl rfl rfl rfl (fun _=>?_) (fun _=>?_)
  |refine ae ?_
  |refine aa ?_
  |refine aC rfl (fun _=>?_) (fun _=>?_)
  |refine bz rfl ?_
  |refine bP rfl ?_
  |refine oq rfl (fun _=>?_) (fun _=>?_)
  |refine aq ?_
  |refine aB ?_))
 exact⟨_,rfl,rfl,rfl⟩
def r5 (N:bt) (f:List Int) (least sg:Int) (v:Value) (H':Heap):Prop:=
 (dM N f least=0∧(sg=112∨sg=116)∧∃ (f':List Int) (p k s:Nat) (A':Option Addr) (c':Nat),Dn N least f p k f'∧(sg=112→s=0)∧v=.tuple #[kD A' f'.length c' p k s,.int .i64 0]∧H'=[.own (.slice A' f'.length c') 2 1 f'.length (aw f')])∨
 (dM N f least=0∧sg≠112∧sg≠116∧v=.tuple #[kD none 0 0 0 0 0,.int .i64 1]∧H'=[])∨
 (dM N f least≠0∧v=.tuple #[kD none 0 0 0 0 0,.int .i64 (dM N f least)]∧H'=[])
set_option maxHeartbeats 1000000 in
theorem uY (N:bt) (hN:N.Fits) (A:Option Addr) (c b o:Nat) (hA:N.arcs≠[]→A=some ⟨b,o,none⟩) (f:List Int) (F:Option Addr) (cf bf of:Nat) (hF:f≠[]→F=some ⟨bf,of,none⟩) (hf:∀ x∈f,dw x) (hfl:f.length*8≤140737488351232) (least sg:Int) (hX:dM N f least≠0∨sg≠112∧sg≠116):
 Fn 40 [bi N A c,.slice F f.length cf,.int .i64 least,.int .u8 sg] [] [.seg b o (arcs N.arcs),.seg bf of (aw f)] (r5 N f least sg):=by
 refine em Tryz.func40 rfl rfl fun w0=>?_
 refine ae (aa ?_)
 refine a6 (cs:=bJ N A c) rfl rfl rfl (fun _=>rfl) fun p4=>?_
 refine aQ rfl rfl rfl (fun _=>rfl) fun p8=>?_
 refine af [] rfl ?_
 refine ae (aa ?_)
 refine ab [] (v:=bi N A c) (ad 1 rfl rfl rfl rfl) rfl ?_
 refine ah [] rfl ?_
 refine ax [] (tU N hN A c b o hA f F cf bf of hF hf hfl least) rfl rfl rfl rfl (by kernel_rfl) ⟨⟨2,_,by simp,rfl,ak _ _ _,ap⟩,⟨3,_,by simp,rfl,ak _ _ _,ap⟩,trivial⟩ (fun _=>rfl) ?_
 rintro v H' (⟨he0,d,rfl,rfl⟩|⟨he,d,rfl,rfl⟩)
 ·refine⟨rfl,?_⟩
  refine af [] rfl ?_
  refine ae (ae (aa (af [] rfl ?_)))
  refine aC rfl (fun h=>absurd rfl h) (fun _=>aq ?_)
  have hs:sg≠112∧sg≠116:=hX.resolve_left (fun h=>h he0)
  refine ae (aa (ah [] rfl ?_))
  refine ax [] (qI sg hs.1 hs.2) rfl rfl rfl rfl (by kernel_rfl) trivial (fun _=>rfl) ?_
  rintro v H' ⟨rfl,rfl⟩
  refine⟨rfl,?_⟩
  refine af [] rfl ?_
  refine ae (ae (aa (af [] rfl ?_)))
  refine bz rfl ?_
  refine ae (aa ?_)
  refine ab [] (v:=kD none 0 0 0 0 0) (bg rfl rfl rfl rfl rfl rfl) rfl ?_
  refine ah [] rfl ?_
  refine aD 0 rfl rfl rfl rfl rfl [] rfl ?_
  refine af [] rfl ?_
  refine aB ?_
  exact⟨[_,_],[],_,⟨⟨p8,0,_,_,rfl,rfl,rfl⟩,rfl,trivial⟩,by decide,rfl,.inr (.inl ⟨he0,hs.1,hs.2,rfl,rfl⟩)⟩
 ·refine⟨rfl,?_⟩
  refine af [] rfl ?_
  refine ae (ae (aa (af [] rfl ?_)))
  refine aC rfl (fun _=>?_) (fun h=>absurd he h)
  refine ae (aa ?_)
  refine ab [] (v:=kD none 0 0 0 0 0) (bg rfl rfl rfl rfl rfl rfl) rfl ?_
  refine ah [] rfl ?_
  refine aD 0 rfl rfl rfl rfl rfl [] rfl ?_
  refine af [] rfl ?_
  refine aB ?_
  exact⟨[_,_],[],_,⟨⟨p8,0,_,_,rfl,rfl,rfl⟩,rfl,trivial⟩,by decide,rfl,.inr (.inr ⟨he,rfl,rfl⟩)⟩
theorem vf (N:bt) (hN:N.Fits) (A:Option Addr) (c b o:Nat) (hA:N.arcs≠[]→A=some ⟨b,o,none⟩) (f:List Int) (F:Option Addr) (cf bf of:Nat) (hF:f≠[]→F=some ⟨bf,of,none⟩) (hf:∀ x∈f,dw x) (hfl:f.length*8≤140737488351232) (least:Int) (hlb:dw least) (sg:Int):
 Fn 40 [bi N A c,.slice F f.length cf,.int .i64 least,.int .u8 sg] [] [.seg b o (arcs N.arcs),.seg bf of (aw f)] (r5 N f least sg):=by
 by_cases hX:dM N f least≠0∨sg≠112∧sg≠116
 ·exact uY N hN A c b o hA f F cf bf of hF hf hfl least sg hX
 ·have he:dM N f least=0:=Classical.byContradiction fun h=>hX (.inl h)
  have hs:sg=112∨sg=116:=by omega
  obtain⟨hR,hW,hle⟩:=dB.1 he
  refine (um N hN hR A c b o hA f hW F cf bf of hF least hle hlb sg hs).mono ?_
  rintro v H' ⟨f',p,k,s,A',c',hd,_,_,h1,_,_,rfl,rfl⟩
  exact .inl ⟨he,hs,f',p,k,s,A',c',hd,h1,rfl,rfl⟩
set_option maxHeartbeats 1000000 in
theorem v4 (N:bt) (hN:N.Fits) (hl2:N.arcs.length≤2000) (A:Option Addr) (c b o:Nat) (hA:N.arcs≠[]→A=some ⟨b,o,none⟩) (sg:Int):
 Fn 22 [bi N A c,.int .u8 sg] [] [.seg b o (arcs N.arcs)] (r5 N (List.replicate N.arcs.length 0) 1 sg):=by
 refine em Tryz.func22 rfl rfl fun w0=>?_
 refine ae (aa ?_)
 refine a6 (cs:=bJ N A c) rfl rfl rfl (fun _=>rfl) fun p2=>?_
 refine aQ rfl rfl rfl (fun _=>rfl) fun p4=>?_
 refine af [] rfl ?_
 refine ae ?_
 refine bq 9 [(0,true),(1,true),(2,true),(3,true),(5,true),(4,false),(6,false),(7,true),(8,true)] [1,2] (by kernel_rfl) (by decide) rfl ?_
 refine ai [] rfl (ad (v:=bi N A c) 0 rfl rfl rfl rfl) rfl ?_
 refine aJ [] rfl ?_
 (first|refine ai [] rfl (ad 0 rfl rfl rfl rfl) rfl ?_|refine ai [] rfl (ad 1 rfl rfl rfl rfl) rfl ?_|refine ai [] rfl (ad 2 rfl rfl rfl rfl) rfl ?_|refine ai [] rfl (ad 3 rfl rfl rfl rfl) rfl ?_|refine ai [] rfl (ad 4 rfl rfl rfl rfl) rfl ?_|refine ai [] rfl (ad 5 rfl rfl rfl rfl) rfl ?_)
 refine aJ [] rfl ?_
 refine bc rfl ?_
 refine cv (n:=N.arcs.length) (c:=N.arcs.length) rfl rfl rfl rfl rfl rfl (by omega) (by omega) (by omega) (fun _=>rfl) fun g=>?_
 refine aj ⟨⟨[2,3],by decide,rfl⟩,?_⟩
 rw[show made [Value.int .i64 0] (N.arcs.length*1)=aw (List.replicate N.arcs.length 0) by rw[ce,Nat.mul_one];simp[aw]]
 refine bc rfl ?_
 refine ax [] (vf N hN A c b o hA (List.replicate N.arcs.length 0) (some ⟨g,0,none⟩) N.arcs.length g 0 (fun _=>rfl) (fun x hx=>by rw[List.eq_of_mem_replicate hx];decide) (by rw[List.length_replicate];omega) 1 (by decide) sg) rfl rfl rfl (by rw[List.length_replicate];rfl) (by kernel_rfl) ⟨⟨3,_,by simp,rfl,ak _ _ _,ap⟩,⟨0,_,by simp,rfl,cp,aZ (fun _=>rfl)⟩,trivial⟩ (fun _=>rfl) ?_
 rintro v H' (⟨he0,hsg,f',p,k,s,A',c',hd,h0,rfl,rfl⟩|⟨he0,h1,h2,rfl,rfl⟩|⟨he,rfl,rfl⟩)
 ·refine⟨rfl,aj ⟨⟨[3,4],by decide,rfl⟩,?_⟩⟩
  refine cA [] rfl ?_
  refine aD 2 rfl rfl rfl rfl rfl [] rfl ?_
  refine af [] rfl ?_
  refine aB ?_
  exact⟨[_,_],[0],_,⟨⟨p4,2,_,_,rfl,rfl,rfl⟩,rfl,trivial⟩,by decide,rfl,.inl ⟨he0,hsg,f',p,k,s,A',c',hd,h0,rfl,rfl⟩⟩
 ·refine⟨rfl,aj ⟨⟨[2,3],by decide,rfl⟩,?_⟩⟩
  refine cA [] rfl ?_
  refine aD 1 rfl rfl rfl rfl rfl [] rfl ?_
  refine af [] rfl ?_
  refine aB ?_
  exact⟨[_,_],[],_,⟨⟨p4,1,_,_,rfl,rfl,rfl⟩,rfl,trivial⟩,by decide,rfl,.inr (.inl ⟨he0,h1,h2,rfl,rfl⟩)⟩
 ·refine⟨rfl,aj ⟨⟨[2,3],by decide,rfl⟩,?_⟩⟩
  refine cA [] rfl ?_
  refine aD 1 rfl rfl rfl rfl rfl [] rfl ?_
  refine af [] rfl ?_
  refine aB ?_
  exact⟨[_,_],[],_,⟨⟨p4,1,_,_,rfl,rfl,rfl⟩,rfl,trivial⟩,by decide,rfl,.inr (.inr ⟨he,rfl,rfl⟩)⟩
end Go.Proofs.YtpbmihpjgjbndaaGreat
/- What a search that begins anew each time finds, in plain terms: with what it marks as leading nowhere it is the search of the plain engine. -/
set_option linter.unusedVariables false
set_option linter.unusedSimpArgs false
namespace Go.Proofs.YtpbmihpjgjbndaaGreat
open Go.RowKit
structure iT (N:bt) (ls:List Nat) (least:Int) (rm:List Int) (D:List Bool):Prop where
 len:D.length=N.nodes.toNat+1
 snk:D[N.snk.toNat]?≠some true
 closed:∀ v,D[v]?=some true→∀ r∈ls,bU N r=v→rm.getD r 0<least∨D[cH N r]?=some true
def nI (N:bt) (ls:List Nat) (least:Int) (rm:List Int) (D:List Bool) (r:Nat):Prop:=
 r∈ls∧least≤rm.getD r 0∧∀ q∈ls,bU N q=bU N r→q<r→rm.getD q 0<least∨D[cH N q]?=some true
section
variable {N:bt} {ls:List Nat} {least:Int} {rm:List Int} {D:List Bool}
theorem iT.alive (h:iT N ls least rm D):∀ {W:List Nat} {a z:Nat},Tr N a W z→D[z]?≠some true→(∀ r∈W,nI N ls least rm D r)→D[a]?≠some true∧∀ r∈W,D[bU N r]?≠some true∧D[cH N r]?≠some true
 |[],a,z,ht,hz,_=>by
  have e:a=z:=ht
  subst e
  exact⟨hz,by simp⟩
 |r::W,a,z,ht,hz,hF=>by
  obtain⟨e,ht'⟩:bU N r=a∧Tr N (cH N r) W z:=ht
  obtain⟨i1,i2⟩:=h.alive ht' hz fun q hq=>hF q (by simp[hq])
  have hr:=hF r (by simp)
  have h1:D[bU N r]?≠some true:=fun hd=>by
   rcases h.closed _ hd r hr.1 rfl with h2|h2
   ·have:=hr.2.1;omega
   ·exact i1 h2
  subst e
  refine⟨h1,fun q hq=>?_⟩
  rcases List.mem_cons.1 hq with rfl|hq
  ·exact⟨h1,i1⟩
  ·exact i2 q hq
def qJ (N:bt) (ls:List Nat) (D:List Bool) (W:List Nat):List Nat:=(List.range (N.nodes.toNat+1)).map fun v=>
 if D[v]?=some true then (cP N ls v).length else match W.find? (fun r=>decide (bU N r=v)) with
  |some r=>(cP N ls v).findIdx (fun q=>decide (q=r))
  |none=>0
theorem lT {W:List Nat} {v:Nat} (hv:v<N.nodes.toNat+1):(qJ N ls D W)[v]?=some (if D[v]?=some true then (cP N ls v).length else match W.find? (fun r=>decide (bU N r=v)) with
 |some r=>(cP N ls v).findIdx (fun q=>decide (q=r))
 |none=>0):=by
 unfold qJ
 rw[List.getElem?_map,List.getElem?_range hv];rfl
theorem mY {W:List Nat} (h:iT N ls least rm D) {v:Nat} (hv:D[v]?=some true):jc (cP N ls) (qJ N ls D W) v:=by
 have hlt:v<N.nodes.toNat+1:=by have:=(List.getElem?_eq_some_iff.1 hv).1;rw[h.len] at this;exact this
 intro p hp
 rw[lT hlt,if_pos hv] at hp
 simp only[Option.some.injEq] at hp
 omega
theorem rr (hR:N.Right) (hs:ls.Pairwise (·<·)) (hlt:∀ r∈ls,r<2*N.arcs.length) (h:iT N ls least rm D) {W:List Nat} {z:Nat} (ht:Tr N N.src.toNat W z) (hz:D[z]?≠some true∨W=[]) (hF:∀ r∈W,nI N ls least rm D r):PI N (cP N ls) least rm (qJ N ls D W) W:=by
 have hal:∀ r∈W,D[bU N r]?≠some true∧D[cH N r]?≠some true:=by
  rcases hz with hz|rfl
  ·exact (h.alive ht hz hF).2
  ·simp
 have huniq:∀ r∈W,∀ q∈W,bU N q=bU N r→q=r:=by
  intro r hr q hq he
  refine Classical.byContradiction fun hne=>?_
  rcases Nat.lt_or_ge q r with hl|hl
  ·rcases (hF r hr).2.2 q (hF q hq).1 he hl with h1|h1
   ·have:=(hF q hq).2.1;omega
   ·exact (hal q hq).2 h1
  ·rcases (hF q hq).2.2 r (hF r hr).1 he.symm (by omega) with h1|h1
   ·have:=(hF r hr).2.1;omega
   ·exact (hal r hr).2 h1
 have hfind:∀ r∈W,W.find? (fun q=>decide (bU N q=bU N r))=some r:=by
  intro r hr
  cases hf:W.find? (fun q=>decide (bU N q=bU N r)) with
  |none=>exact absurd (List.find?_eq_none.1 hf r hr) (by simp)
  |some q=>
   have h1:=List.find?_some hf
   have h2:=List.mem_of_find?_eq_some hf
   rw[huniq r hr q h2 (by simpa using h1)]
 have hidx:∀ r∈W,(cP N ls (bU N r))[(cP N ls (bU N r)).findIdx (fun q=>decide (q=r))]?=some r:=by
  intro r hr
  have hm:r∈cP N ls (bU N r):=dU.2 ⟨(hF r hr).1,rfl⟩
  have hlt2:(cP N ls (bU N r)).findIdx (fun q=>decide (q=r))<(cP N ls (bU N r)).length:=List.findIdx_lt_length_of_exists ⟨r,hm,by simp⟩
  have h3:=List.findIdx_getElem (w:=hlt2)
  rw[List.getElem?_eq_getElem hlt2]
  simpa using h3
 have hsort:∀ v,(cP N ls v).Pairwise (·<·):=fun v=>hs.filter _
 refine⟨by unfold qJ;simp,⟨z,ht⟩,fun r hr=>?_,fun v p hp j r hj hr=>?_⟩
 ·have hl:=eD hR (hlt r (hF r hr).1)
  refine⟨_,?_,hidx r hr,(hF r hr).2.1⟩
  rw[lT (by omega),if_neg (hal r hr).1,hfind r hr]
 ·have hrm:=dU.1 (List.mem_of_getElem? hr)
  have hl:=d6 hR (hlt r hrm.1)
  have dead:D[cH N r]?=some true→cH N r≠N.snk.toNat∧jc (cP N ls) (qJ N ls D W) (cH N r):=fun hd=>⟨fun e=>h.snk (by rw[← e];exact hd),mY h hd⟩
  have hvl:v<N.nodes.toNat+1:=by
   have:=(List.getElem?_eq_some_iff.1 hp).1
   unfold qJ at this
   simpa using this
  rw[lT hvl] at hp
  by_cases hv:D[v]?=some true
  ·rcases h.closed v hv r hrm.1 hrm.2 with h1|h1
   ·exact .inl h1
   ·exact .inr (dead h1)
  ·rw[if_neg hv] at hp
   cases hf:W.find? (fun q=>decide (bU N q=v)) with
   |none=>rw[hf] at hp;simp only[Option.some.injEq] at hp;omega
   |some q=>
    rw[hf] at hp
    simp only[Option.some.injEq] at hp
    have hqv:bU N q=v:=by simpa using List.find?_some hf
    have hqW:=List.mem_of_find?_eq_some hf
    have hqi:=hidx q hqW
    rw[hqv,hp] at hqi
    have hjr:r<q:=by
     obtain⟨hj1,e1⟩:=List.getElem?_eq_some_iff.1 hr
     obtain⟨hj2,e2⟩:=List.getElem?_eq_some_iff.1 hqi
     have:=List.pairwise_iff_getElem.1 (hsort v) j p hj1 hj2 hj
     omega
    rcases (hF q hqW).2.2 r hrm.1 (by rw[hrm.2,hqv]) hjr with h1|h1
    ·exact .inl h1
    ·exact .inr (dead h1)
end
end Go.Proofs.YtpbmihpjgjbndaaGreat
