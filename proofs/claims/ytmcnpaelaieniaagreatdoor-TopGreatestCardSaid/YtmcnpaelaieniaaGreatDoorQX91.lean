import Derived.Test.YtmcnpaelaieniaaGreatDoorQX67
import Derived.Test.YtmcnpaelaieniaaGreatDoorQX90
import Derived.Test.YtmcnpaelaieniaaGreatDoorQX79
import Derived.Test.YtmcnpaelaieniaaGreatDoorQX109
import Derived.Test.YtmcnpaelaieniaaGreatDoorQX107
/- A part of the proof; see NOTES.md. -/
set_option linter.unusedVariables false
set_option linter.unusedSimpArgs false
namespace Go.Proofs.YtmcnpaelaieniaaGreatDoor
open Lib
def iv(r:Rd):List Ws->Option Rd
 |[]=>some r
 |w::ws=>if (r.line w).2≠0 then none else iv (r.line w).1 ws
theorem rA:∀ (ls:List (LU)) (r:Rd) (i:Nat) (r':Rd),iv r (ls.map bw)=some r'->dY r i ls=(r',0,0)
 |[],r,i,r',h=>by simp only[iv,Hy,Gs] at h;subst h;rfl
 |x::ls,r,i,r',h=>by
  rw[GG,iv] at h;rw[qG];split at h
  ·cases h
  ·rename_i h1;rw[if_neg h1];exact rA ls _ _ r' h
def kG(w:Ws):Bool:=match w with
 |[]=>true
 |x::_=>x==[99]
theorem xX{w:Ws}(h:kG w=true)(r:Rd):r.line w=(r,0):=by
 unfold kG at h;unfold Rd.line;split
 ·rfl
 ·rename_i x l;simp only[beq_iff_eq] at h;rw[if_pos h]
theorem nS:∀ (ws:List Ws) (r:Rd),iv r ws=iv r (ws.filter λ w=>!kG w)
 |[],r=>rfl
 |w::ws,r=>by
  rw[iv]
  cases h:kG w with
  |true=>
   rw[xX h,if_neg (by simp),List.filter_cons_of_neg (by simp[h])];exact nS ws r
  |false=>
   rw[Ig (by simp[h]),iv];split
   ·rfl
   ·exact nS ws _
def uV:List dI->List Ws->Prop
 |[],[]=>True
 |a::l,w::ws=>(∃ x y z,w=[[97],x,y,z]/\dj x=(a.fr,0)/\dj y=(a.to,0)/\dj z=(a.cap,0))/\uV l ws
 |_,_=>False
def Dy(N:aU)(W:List Ws):Prop:=∃ a b c d ws,W=[[112],[109,97,120],a,b]::[[110],c,[115]]::[[110],d,[116]]::ws/\dj a=(N.nodes,0)/\dj b=((N.arcs.length:Int),0)/\dj c=(N.src,0)/\dj d=(N.snk,0)/\uV N.arcs ws
theorem BU{x:LU}{n:Int}(h:dj x=(n,0)):bn [x]=([n],0):=by
 unfold bn;unfold bn;rw[h];rfl
theorem DV{x y:LU}{n m:Int}(h:dj x=(n,0))(k:dj y=(m,0)):bn [x,y]=([n,m],0):=by
 unfold bn;rw[h,BU k];rfl
theorem FK{x y z:LU}{n m p:Int}(h:dj x=(n,0))(k:dj y=(m,0))(j:dj z=(p,0)):bn [x,y,z]=([n,m,p],0):=by
 unfold bn;rw[h,DV k j];rfl
theorem rq:∀ (l:List dI) (ws:List Ws) (r:Rd),uV l ws->r.src≠0->r.snk≠0->(∀ a∈l,(1<=a.fr/\a.fr<=r.nodes)/\(1<=a.to/\a.to<=r.nodes)/\0<=a.cap)->(r.arcs.length:Int)+l.length<=r.most->
 0<=r.sum->r.sum+(l.map (·.cap)).sum<=4611686018427387903->iv r ws=some { r with arcs:=r.arcs++l,sum:=r.sum+(l.map (·.cap)).sum }
 |[],[],r,_,_,_,_,_,_,_=>by simp[iv]
 |[],_::_,_,h,_,_,_,_,_,_=>h.elim
 |_::_,[],_,h,_,_,_,_,_,_=>h.elim
 |a::l,w::ws,r,⟨⟨x,y,z,hw,hx,hy,hz⟩,h⟩,h1,h2,h3,h4,h5,h6=>by
  subst hw;have ha:=h3 a (by simp)
  have hnn:0<=(l.map (·.cap)).sum:=si λ c hc=>by
   obtain⟨b,hb,rfl⟩:=GR.1 hc;exact (h3 b (by simp[hb])).2.2
  rw[GG,GT] at h6;rw[Gz] at h4
  have hl:r.line [[97],x,y,z]=({ r with sum:=r.sum+a.cap,arcs:=r.arcs++[a] },0):=by
   rw[Rd.line_a];unfold Rd.arc;rw[if_neg (by simp[h1,h2]),show List.drop 1 [[97],x,y,z]=[x,y,z] from rfl,FK hx hy hz];rw[if_neg (by simp),if_neg (by simp;omega),if_neg (by simp;omega),if_neg (by omega),if_neg (by simp;omega)];rfl
  rw[iv,hl,if_neg (by simp)];have ih:=rq l ws { r with sum:=r.sum+a.cap,arcs:=r.arcs++[a] } h h1 h2 (λ b hb=>h3 b (by simp[hb])) (by simp only[Gx,Gz,GQ];omega) (by simp only;omega) (by simp only;omega);rw[ih];simp[Int.add_assoc]
theorem AD{N:aU}(hR:N.Right){W:List Ws}(h:Dy N W):∃ sm,iv oZ W=some ⟨N.nodes,N.src,N.snk,N.arcs,N.arcs.length,sm⟩:=by
 obtain⟨a,b,c,d,ws,rfl,ha,hb,hc,hd,hw⟩:=h;have hnn:=hR.nodes;have hs:=hR.src;have ht:=hR.snk;have hln:=hR.len;have hne:=hR.diff
 have l1:oZ.line [[112],[109,97,120],a,b]=(⟨N.nodes,0,0,[],N.arcs.length,0⟩,0):=by
  rw[Rd.line_p];unfold Rd.problem;rw[if_neg (by simp[oZ]),show List.drop 2 [[112],[109,97,120],a,b]=[a,b] from rfl,DV ha hb,if_neg (by simp),if_neg (by simp;omega)];rfl
 have l2:Rd.line ⟨N.nodes,0,0,[],N.arcs.length,0⟩ [[110],c,[115]]=(⟨N.nodes,N.src,0,[],N.arcs.length,0⟩,0):=by
  rw[Rd.line_n];unfold Rd.end_;rw[if_neg (by simp<;>omega),if_pos (by rfl),if_neg (by simp),show [[110],c,[115]].getD 1 []=c from rfl,BU hc,if_neg (by simp),if_neg (by simp;omega),if_neg (by simp;omega)];rfl
 have l3:Rd.line ⟨N.nodes,N.src,0,[],N.arcs.length,0⟩ [[110],d,[116]]=(⟨N.nodes,N.src,N.snk,[],N.arcs.length,0⟩,0):=by
  rw[Rd.line_n];unfold Rd.end_;rw[if_neg (by simp<;>omega),if_neg (by simp),if_pos (by rfl),if_neg (by simp),show [[110],d,[116]].getD 1 []=d from rfl,BU hd,if_neg (by simp),if_neg (by simp;omega),if_neg (by simp;omega)];rfl
 refine⟨0+(N.arcs.map (·.cap)).sum,?_⟩;rw[iv,l1,if_neg (by simp),iv,l2,if_neg (by simp),iv,l3,if_neg (by simp)];rw[rq N.arcs ws ⟨N.nodes,N.src,N.snk,[],N.arcs.length,0⟩ hw (by simp only;omega) (by simp only;omega) hR.arc (by simp) (by simp) (by simpa using hR.sum)];simp
theorem y5{N:aU}(hR:N.Right){s:LU}(h:Dy N (((aT s).map bw).filter λ w=>!kG w)):bW s=(N,0,0):=by
 obtain⟨sm,hf⟩:=AD hR h;rw[<- nS] at hf;have hr:=rA _ _ 0 _ hf;have hs:=hR.src;have ht:=hR.snk;unfold bW;rw[hr,if_neg (by simp),if_neg (by simp;omega),if_neg (by simp)]
open Lib
theorem zT(f:LU)(n:Int)(l:LI):fF f (n::l)=fF (f++32::itoa n) l:=by
 rw[mn,mn];simp
theorem ny(f:LU)(l:LI)(h:∀ n∈l,0<=n):bw (fF f l)=bw f++l.map itoa:=by
 induction l generalizing f with
 |nil=>simp[mn]
 |cons n l ih=>
  have hn:=h n (by simp);rw[zT,ih _ λ x hx=>h x (by simp[hx]),jm rfl,nL (λ b hb=>(mM hn b hb).2) (sB hn)];simp
theorem sI{f:LU}{l:LI}(hf:∀ b∈f,b≠10)(h:∀ n∈l,0<=n):∀ b∈fF f l,b≠10:=by
 intro b hb;rw[mn] at hb
 rcases GE.1 hb with hb|hb
 ·exact hf b hb
 ·obtain⟨x,hx,hbx⟩:=List.mem_flatten.1 hb;obtain⟨n,hn,rfl⟩:=GR.1 hx
  rcases GD.1 hbx with rfl|hbx
  ·decide
  ·exact (mM (h n hn) b hbx).1
def v9(N:aU):List (LU):=fF [112,32,109,97,120] [N.nodes,N.arcs.length]::(fF [110] [N.src]++[32,115])::(fF [110] [N.snk]++[32,116])::N.arcs.map λ a=>fF [97] [a.fr,a.to,a.cap]
theorem Br{N:aU}(hR:N.Right):∀ x∈v9 N,∀ b∈x,b≠10:=by
 have hnn:=hR.nodes;have hs:=hR.src;have ht:=hR.snk;intro x hx;unfold v9 at hx;simp only[GD,GR] at hx;have h110:∀ b∈([110]:LU),b≠10:=by decide
 have h115:∀ b∈([32,115]:LU),b≠10:=by decide
 have h116:∀ b∈([32,116]:LU),b≠10:=by decide
 rcases hx with rfl|rfl|rfl|⟨a,ha,rfl⟩
 ·exact sI (by decide) (λ n hn=>by simp at hn;omega)
 ·intro b hb
  rcases GE.1 hb with hb|hb
  ·exact sI h110 (λ n hn=>by simp at hn;omega) b hb
  ·exact h115 b hb
 ·intro b hb
  rcases GE.1 hb with hb|hb
  ·exact sI h110 (λ n hn=>by simp at hn;omega) b hb
  ·exact h116 b hb
 ·have:=hR.arc a ha;exact sI (by decide) (λ n hn=>by simp at hn;omega)
theorem u5:∀ (ls:List (LU)),(∀ x∈ls,∀ b∈x,b≠10)->aT ((ls.map λ x=>x++[10]).flatten)=ls
 |[],_=>rfl
 |x::ls,h=>by
  rw[GG,HR,G4];show aT (x++10::_)=_;rw[zk (h x (by simp))];exact Gt (x::·) (u5 ls λ y hy=>h y (by simp[hy]))
theorem yF(N:aU):iM N=((v9 N).map λ x=>x++[10]).flatten:=by
 unfold iM iy v9;simp only[GG,HR,HQ,G4]
 congr 1
theorem uW{N:aU}(hR:N.Right):aT (iM N)=v9 N:=by rw[yF,u5 _ (Br hR)]
theorem xr:∀ {l:LI} {x:Int},(∀ y∈l,0<=y)->x∈l->x<=l.sum
 |[],_,_,h=>absurd h GP
 |y::l,x,h,hx=>by
  have h1:=si (l:=l) λ z hz=>h z (by simp[hz]);have h2:=h y (by simp);rw[GT]
  rcases GD.1 hx with rfl|hx
  ·omega
  ·have:=xr (λ z hz=>h z (by simp[hz])) hx;omega
theorem vk{N:aU}(hR:N.Right){a:dI}(ha:a∈N.arcs):a.cap<=4611686018427387903:=by
 have:=xr (l:=N.arcs.map (·.cap)) (λ y hy=>by
  obtain⟨b,hb,rfl⟩:=GR.1 hy;exact (hR.arc b hb).2.2) (GR.2 ⟨a,ha,rfl⟩)
 have:=hR.sum;omega
theorem my{n:Int}(h:0<=n/\n<=4611686018427387903):dj (itoa n)=(n,0):=qC n (by omega)
theorem ql{N:aU}(hR:N.Right):Dy N ((v9 N).map bw):=by
 have hnn:=hR.nodes;have hs:=hR.src;have ht:=hR.snk;have hln:=hR.len;refine⟨itoa N.nodes,itoa N.arcs.length,itoa N.src,itoa N.snk,N.arcs.map λ a=>[[97],itoa a.fr,itoa a.to,itoa a.cap],?_,my (by omega),my (by omega),my (by omega),my (by omega),?_⟩
 ·unfold v9;simp only[List.map_cons,List.map_map];rw[ny _ _ (fun n hn=>by simp at hn;omega),show fF [110] [N.src]++[32,115]=fF [110] [N.src]++32::[115] from rfl,jm rfl,ny _ _ (fun n hn=>by simp at hn;omega),show fF [110] [N.snk]++[32,116]=fF [110] [N.snk]++32::[116] from rfl,jm rfl,ny _ _ (fun n hn=>by simp at hn;omega)]
  congr 1
  congr 1
  congr 1
  refine HH λ a ha=>?_;have:=hR.arc a ha;show bw (fF [97] [a.fr,a.to,a.cap])=_;rw[ny _ _ (λ n hn=>by simp at hn;omega)];rfl
 ·have key:∀ l:List dI,(∀ a∈l,a∈N.arcs)->uV l (l.map λ a=>[[97],itoa a.fr,itoa a.to,itoa a.cap]):=by
   intro l
   induction l with
   |nil=>intro _;trivial
   |cons a l ih=>
    intro h;have:=hR.arc a (h a (by simp));have:=vk hR (h a (by simp));exact⟨⟨_,_,_,rfl,my (by omega),my (by omega),my (by omega)⟩,ih λ b hb=>h b (by simp[hb])⟩
  exact key N.arcs λ a ha=>ha
theorem zR{N:aU}{W:List Ws}(h:Dy N W):(W.filter λ w=>!kG w)=W:=by
 obtain⟨a,b,c,d,ws,rfl,_,_,_,_,hw⟩:=h
 have key:∀ (l:List dI) (ws:List Ws),uV l ws->(ws.filter λ w=>!kG w)=ws:=by
  intro l
  induction l with
  |nil=>intro ws h;cases ws with
   |nil=>rfl
   |cons _ _=>exact h.elim
  |cons a l ih=>intro ws h;cases ws with
   |nil=>exact h.elim
   |cons w ws=>
    obtain⟨⟨x,y,z,rfl,_⟩,h2⟩:=h;rw[Ig (by simp[kG]),ih ws h2]
 rw[Ig (by simp[kG]),Ig (by simp[kG]),Ig (by simp[kG]),key _ _ hw]
theorem um{N:aU}(hR:N.Right):bW (iM N)=(N,0,0):=by
 refine y5 hR ?_;rw[uW hR,zR (ql hR)];exact ql hR
open Lib
theorem qU:∀ (ls:List (LU)) (r:Rd) (i:Nat),(dY r i ls).2.2≠0->i+1<=(dY r i ls).2.1/\(dY r i ls).2.1<=i+ls.length
 |[],r,i,h=>absurd rfl h
 |x::ls,r,i,h=>by
  rw[qG] at h ⊢;rw[Gz];split
  ·simp only;omega
  ·rename_i h1;rw[if_neg h1] at h;have:=qU ls _ _ h;omega
theorem rM{s:LU}(h:(bW s).2.2≠0):(bW s).1=nB/\1<=(bW s).2.1/\(bW s).2.1<=(aT s).length+1:=by
 unfold bW at h ⊢;split
 ·rename_i h1;have:=qU _ _ _ h1;exact⟨rfl,by simp only;omega,by simp only;omega⟩
 ·rename_i h1;rw[if_neg h1] at h;split
  ·exact⟨rfl,by simp,by simp⟩
  ·rename_i h2;rw[if_neg h2] at h;split
   ·exact⟨rfl,by simp,by simp⟩
   ·rename_i h3;rw[if_neg h3] at h;exact absurd rfl h
theorem aU.Right.fits4{N:aU}(h:N.Right):N.Fits:=by
 have h1:=h.nodes;have h2:=h.src;have h3:=h.snk;have h4:=h.len;refine⟨by unfold dn;omega,by unfold dn;omega,by unfold dn;omega,by omega,λ a ha=>?_⟩;have h5:=h.arc a ha;have h6:=vk h ha;exact⟨by unfold dn;omega,by unfold dn;omega,by unfold dn;omega⟩
open Go.RowKit
structure cD.OK (m:cD):Prop where
 net:m.a=true->m.N.Right
 fin:∀ x∈m.f,dn x
 flen:m.f.length<=100000
 slen:m.s.length<=100000
def cD.load(m:cD)(N:aU)(A:OA)(c:Nat):cD:=⟨N,[],[],true,false,false,A,c,none,0,none,0⟩
def DT(p:Nat)(m:cD)(l:LU)(v:Value)(H':Heap):Prop:=
 ((bW l).2.2≠0/\v=tj ((bW l).2.1,(bW l).2.2)/\H'=eM p m)\/
 ((bW l).2.2=0/\∃ (A:OA) (c:Nat),v=tj (0,0)/\H'=eM p (m.load (bW l).1 A c))
set_option maxHeartbeats 1000000 in
theorem wY(V:b5)(p:Nat)(m:cD)(l:LU)(hl:l.length<=9999999):Fn 21 [.pointer (some ⟨p,0,none⟩),dF l] (aL (eM p m)) (V.heap++eM p m) (DT p m l):=by
 generalize hM:aL _=M
 refine aJ Tryz.func21 rfl rfl λ w0=>?_;refine ad (aa (ae [] rfl ?_));refine ad (aa (ah [] rfl ?_));refine ap [] (qw V l hl) rfl (by kernel_rfl) ⟨⟨0,by simp[b5.heap],rfl⟩,⟨1,by simp[b5.heap],rfl⟩,⟨2,by simp[b5.heap],rfl⟩,an⟩ (λ _=>rfl) ?_;rintro v H' ⟨A,c,rfl,rfl⟩;refine⟨rfl,?_⟩;refine ah [] rfl ?_;refine bo rfl rfl rfl (λ _=>rfl) λ p6=>?_;refine aA 0 rfl [] rfl ?_;refine ae [] rfl ?_;refine ad (ad (aa (ae [] rfl ?_)));refine aC rfl (λ hz=>?_) (λ hz=>aq ?_)
 ·refine ad (aa (ae [] rfl ?_));exact az [5,6,7,8] (by decide) rfl (ay ⟨_,rfl,.inl ⟨hz,rfl,rfl⟩⟩)
 have hz:(bW l).2.2=0:=GK.1 hz;refine ad (aa ?_);refine am (gs:=[999]) rfl ?_;refine ab [] (v:=bp (bW l).1 A c) (af 0 rfl) rfl ?_;refine ab [] (bz rfl rfl rfl rfl rfl rfl) rfl ?_;refine ah [] rfl ?_;refine aA 5 rfl [] rfl ?_;refine ai ?_;refine ad (aa (ae [] rfl ?_));refine cd 3 1 ?_;refine cd 2 1 ?_;exact az [7,3,0,1] (by decide) rfl (ay ⟨_,rfl,.inr ⟨hz,A,c,rfl,rfl⟩⟩)
def fw(p:Nat)(m:cD)(ba bf bs:Nat):Heap:=[.seg p 0 m.cells,.seg ba 0 (arcs m.N.arcs),.seg bf 0 (ax m.f),.seg bs 0 (ax m.s)]
structure cD.At (m:cD) (ba bf bs:Nat):Prop where
 n:m.N.arcs≠[]->m.An=some ⟨ba,0,none⟩
 f:m.f≠[]->m.Af=some ⟨bf,0,none⟩
 s:m.s≠[]->m.As=some ⟨bs,0,none⟩
theorem zh(m:cD)(ha:m.a=true)(p:Nat)(sg:Int)(hsg:¬ (sg=112\/sg=116\/sg=115)):Fn 22 [.pointer (some ⟨p,0,none⟩),.int .u8 sg] [] [.seg p 0 m.cells] λ v H'=>v=tj (0,1)/\H'=[]:=by
 refine aJ Tryz.func22 rfl rfl λ w0=>?_;refine ad (aa (ae [] rfl ?_));refine ad (ad (aa (ah [] rfl ?_)));refine ap (fst:=[]) (cap:=[]) [] (jn m p [] (by decide) none 0 0 0 0 (λ h=>absurd rfl h) rfl) rfl (by kernel_rfl) ⟨⟨0,_,by simp,rfl,ak _ _ _,av⟩,⟨0,_,by simp,rfl,ge,.inl rfl⟩,an⟩ (λ _=>rfl) ?_;rintro v H' ⟨rfl,rfl⟩;refine⟨rfl,?_⟩;rw[p5 ha];refine ae [] rfl ?_;refine ad (aa (ae [] rfl ?_));refine aC rfl (λ h=>absurd rfl h) (λ _=>aq ?_);refine ad (ad (aa (ae [] rfl ?_)));refine au (ad (ad (aa (ae [] rfl ?_))));refine eE 15 rfl (λ h=>hsg (.inl h)) ?_;refine bG rfl ?_;refine aa (ae [] rfl ?_);refine eE 15 rfl (λ h=>hsg (.inr (.inl h))) ?_;refine bG rfl ?_;refine ad (aa (ae [] rfl ?_));refine eE 32 rfl (λ h=>hsg (.inr (.inr h))) ?_;refine bG rfl ?_;refine ad (aa (ae [] rfl ?_));exact az [] (by decide) rfl (ay ⟨_,rfl,rfl,rfl⟩)
noncomputable def cD.checkZ(m:cD):Int:=if m.lack [false,true]≠0 then m.lack [false,true] else oI m.N m.f m.s
theorem EV{m:cD}{l:LB}(h:m.lack l=0):m.a=true:=by
 cases ha:m.a with
 |true=>rfl
 |false=>rw[CZ ha] at h;exact absurd h (by decide)
theorem yT(m:cD)(hm:m.OK)(p ba bf bs:Nat)(hat:m.At ba bf bs):Fn 103 [.pointer (some ⟨p,0,none⟩)] [] (fw p m ba bf bs) λ v H'=>v=.int .i64 m.checkZ/\H'=[]:=by
 have hfl:=hm.flen;refine aJ Tryz.func103 rfl rfl λ w0=>?_;refine ad (aa (ae [] rfl ?_));refine ad (ad (aa (ah [] rfl ?_)));refine bF rfl rfl rfl rfl rfl rfl rfl (λ _=>rfl) λ g=>?_;refine ap (fst:=[]) (cap:=[]) [] (jn m p [false,true] (by decide) (some ⟨g,0,none⟩) 2 2 g 0 (λ _=>rfl) rfl) rfl (by kernel_rfl) ⟨⟨1,_,by simp[fw],rfl,ak _ _ _,av⟩,⟨0,_,by simp,rfl,aF _ _ _ (0,0),.inr rfl⟩,an⟩ (λ _=>rfl) ?_;rintro v H' ⟨rfl,rfl⟩;refine⟨rfl,?_⟩;refine ae [] rfl ?_;refine ad (aa (ae [] rfl ?_));refine aC rfl (λ hz=>?_) (λ hz=>aq ?_)
 ·refine ad (aa (ae [] rfl ?_));refine az [] (by decide) rfl (ay ⟨_,rfl,?_,rfl⟩);unfold cD.checkZ;rw[if_pos hz];rfl
 have hz:m.lack [false,true]=0:=GK.1 hz;have hR:=hm.net (EV hz);refine ad ?_;refine bu 14 (cZ [0,1,2,3,4,5,6,7,8,9,10,11]++[(12,false)]++cZ [13]) [1,2,3,4] (by kernel_rfl) (by decide) rfl ?_;refine aB [] rfl ?_;refine aj [] (v:=bp m.N m.An m.cn) rfl (a8 (i:=0) 0 rfl rfl rfl) rfl ?_;refine aB [] rfl ?_;refine aj [] (v:=.slice m.Af m.f.length m.cf) rfl (a8 (i:=4) 0 rfl rfl rfl) rfl ?_;refine aB [] rfl ?_;refine aj [] (v:=.slice m.As m.s.length m.cs) rfl (a8 (i:=5) 0 rfl rfl rfl) rfl ?_;refine bg rfl ?_;refine ap [] (yN m.N hR.fits' hR m.An m.cn ba 0 hat.n m.f hm.fin (by omega) m.Af m.cf bf 0 hat.f m.s hm.slen m.As m.cs bs 0 hat.s) rfl (by kernel_rfl) ⟨⟨2,_,by simp[fw],rfl,ak _ _ _,av⟩,⟨3,_,by simp[fw],rfl,ak _ _ _,av⟩,⟨4,_,by simp[fw],rfl,ak _ _ _,av⟩,an⟩ (λ _=>rfl) ?_;rintro v H' ⟨rfl,rfl⟩;refine⟨rfl,?_⟩;refine ai ⟨⟨[1,2,3,4],by decide,rfl⟩,?_⟩;refine aB [] rfl ?_;refine bq ?_;refine ai ?_;refine az [] (by decide) rfl (ay ⟨_,rfl,?_,rfl⟩);unfold cD.checkZ;rw[if_neg (λ h=>h hz)];rfl
def Gp(g:Gr)(e:Fu):Prop:=(1<=e.l/\e.l<=g.left)/\(1<=e.r/\e.r<=g.right)
open Classical in
noncomputable def o3(g:Gr):Int:=if ¬ ((1<=g.left/\g.left<=200)/\(1<=g.right/\g.right<=200)) then 3 else if ∀ e∈g.edges,Gp g e then 0 else 4
end Go.Proofs.YtmcnpaelaieniaaGreatDoor
