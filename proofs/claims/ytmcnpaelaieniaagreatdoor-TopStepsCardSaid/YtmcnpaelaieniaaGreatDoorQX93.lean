import Derived.Test.YtmcnpaelaieniaaGreatDoorQX68
import Derived.Test.YtmcnpaelaieniaaGreatDoorQX92
import Derived.Test.YtmcnpaelaieniaaGreatDoorQX81
import Derived.Test.YtmcnpaelaieniaaGreatDoorQX110
import Derived.Test.YtmcnpaelaieniaaGreatDoorQX108
/- A part of the proof; see NOTES.md. -/
set_option linter.unusedVariables false
set_option linter.unusedSimpArgs false
namespace Go.Proofs.YtmcnpaelaieniaaGreatDoor
open Lib
def iD(r:Rd):List Ws->Option Rd
 |[]=>some r
 |w::ws=>if (r.line w).2≠0 then none else iD (r.line w).1 ws
theorem rL:∀ (ls:List (LU)) (r:Rd) (i:Nat) (r':Rd),iD r (ls.map bw)=some r'->dY r i ls=(r',0,0)
 |[],r,i,r',h=>by simp only[iD,HC,GA] at h;subst h;rfl
 |x::ls,r,i,r',h=>by
  rw[GM,iD] at h;rw[po];split at h
  ·cases h
  ·rename_i h1;rw[if_neg h1];exact rL ls _ _ r' h
def kv(w:Ws):Bool:=match w with
 |[]=>true
 |x::_=>x==[99]
theorem zh{w:Ws}(h:kv w=true)(r:Rd):r.line w=(r,0):=by
 unfold kv at h;unfold Rd.line;split
 ·rfl
 ·rename_i x l;simp only[beq_iff_eq] at h;rw[if_pos h]
theorem nC:∀ (ws:List Ws) (r:Rd),iD r ws=iD r (ws.filter λ w=>!kv w)
 |[],r=>rfl
 |w::ws,r=>by
  rw[iD]
  cases h:kv w with
  |true=>
   rw[zh h,if_neg (by simp),List.filter_cons_of_neg (by simp[h])];exact nC ws r
  |false=>
   rw[Io (by simp[h]),iD];split
   ·rfl
   ·exact nC ws _
def t6:List dM->List Ws->Prop
 |[],[]=>True
 |a::l,w::ws=>(∃ x y z,w=[[97],x,y,z]/\dp x=(a.fr,0)/\dp y=(a.to,0)/\dp z=(a.cap,0))/\t6 l ws
 |_,_=>False
def DJ(N:aO)(W:List Ws):Prop:=∃ a b c d ws,W=[[112],[109,97,120],a,b]::[[110],c,[115]]::[[110],d,[116]]::ws/\dp a=(N.nodes,0)/\dp b=((N.arcs.length:Int),0)/\dp c=(N.src,0)/\dp d=(N.snk,0)/\t6 N.arcs ws
theorem Bj{x:LU}{n:Int}(h:dp x=(n,0)):bo [x]=([n],0):=by
 unfold bo;unfold bo;rw[h];rfl
theorem D2{x y:LU}{n m:Int}(h:dp x=(n,0))(k:dp y=(m,0)):bo [x,y]=([n,m],0):=by
 unfold bo;rw[h,Bj k];rfl
theorem FV{x y z:LU}{n m p:Int}(h:dp x=(n,0))(k:dp y=(m,0))(j:dp z=(p,0)):bo [x,y,z]=([n,m,p],0):=by
 unfold bo;rw[h,D2 k j];rfl
theorem qZ:∀ (l:List dM) (ws:List Ws) (r:Rd),t6 l ws->r.src≠0->r.snk≠0->(∀ a∈l,(1<=a.fr/\a.fr<=r.nodes)/\(1<=a.to/\a.to<=r.nodes)/\0<=a.cap)->(r.arcs.length:Int)+l.length<=r.most->
 0<=r.sum->r.sum+(l.map (·.cap)).sum<=4611686018427387903->iD r ws=some { r with arcs:=r.arcs++l,sum:=r.sum+(l.map (·.cap)).sum }
 |[],[],r,_,_,_,_,_,_,_=>by simp[iD]
 |[],_::_,_,h,_,_,_,_,_,_=>h.elim
 |_::_,[],_,h,_,_,_,_,_,_=>h.elim
 |a::l,w::ws,r,⟨⟨x,y,z,hw,hx,hy,hz⟩,h⟩,h1,h2,h3,h4,h5,h6=>by
  subst hw;have ha:=h3 a (by simp)
  have hnn:0<=(l.map (·.cap)).sum:=su λ c hc=>by
   obtain⟨b,hb,rfl⟩:=G0.1 hc;exact (h3 b (by simp[hb])).2.2
  rw[GM,GY] at h6;rw[GG] at h4
  have hl:r.line [[97],x,y,z]=({ r with sum:=r.sum+a.cap,arcs:=r.arcs++[a] },0):=by
   rw[Rd.line_a];unfold Rd.arc;rw[if_neg (by simp[h1,h2]),show List.drop 1 [[97],x,y,z]=[x,y,z] from rfl,FV hx hy hz];rw[if_neg (by simp),if_neg (by simp;omega),if_neg (by simp;omega),if_neg (by omega),if_neg (by simp;omega)];rfl
  rw[iD,hl,if_neg (by simp)];have ih:=qZ l ws { r with sum:=r.sum+a.cap,arcs:=r.arcs++[a] } h h1 h2 (λ b hb=>h3 b (by simp[hb])) (by simp only[GE,GG,GX];omega) (by simp only;omega) (by simp only;omega);rw[ih];simp[Int.add_assoc]
theorem Bw{N:aO}(hR:N.Right){W:List Ws}(h:DJ N W):∃ sm,iD oZ W=some ⟨N.nodes,N.src,N.snk,N.arcs,N.arcs.length,sm⟩:=by
 obtain⟨a,b,c,d,ws,rfl,ha,hb,hc,hd,hw⟩:=h;have hnn:=hR.nodes;have hs:=hR.src;have ht:=hR.snk;have hln:=hR.len;have hne:=hR.diff
 have l1:oZ.line [[112],[109,97,120],a,b]=(⟨N.nodes,0,0,[],N.arcs.length,0⟩,0):=by
  rw[Rd.line_p];unfold Rd.problem;rw[if_neg (by simp[oZ]),show List.drop 2 [[112],[109,97,120],a,b]=[a,b] from rfl,D2 ha hb,if_neg (by simp),if_neg (by simp;omega)];rfl
 have l2:Rd.line ⟨N.nodes,0,0,[],N.arcs.length,0⟩ [[110],c,[115]]=(⟨N.nodes,N.src,0,[],N.arcs.length,0⟩,0):=by
  rw[Rd.line_n];unfold Rd.end_;rw[if_neg (by simp<;>omega),if_pos (by rfl),if_neg (by simp),show [[110],c,[115]].getD 1 []=c from rfl,Bj hc,if_neg (by simp),if_neg (by simp;omega),if_neg (by simp;omega)];rfl
 have l3:Rd.line ⟨N.nodes,N.src,0,[],N.arcs.length,0⟩ [[110],d,[116]]=(⟨N.nodes,N.src,N.snk,[],N.arcs.length,0⟩,0):=by
  rw[Rd.line_n];unfold Rd.end_;rw[if_neg (by simp<;>omega),if_neg (by simp),if_pos (by rfl),if_neg (by simp),show [[110],d,[116]].getD 1 []=d from rfl,Bj hd,if_neg (by simp),if_neg (by simp;omega),if_neg (by simp;omega)];rfl
 refine⟨0+(N.arcs.map (·.cap)).sum,?_⟩;rw[iD,l1,if_neg (by simp),iD,l2,if_neg (by simp),iD,l3,if_neg (by simp)];rw[qZ N.arcs ws ⟨N.nodes,N.src,N.snk,[],N.arcs.length,0⟩ hw (by simp only;omega) (by simp only;omega) hR.arc (by simp) (by simp) (by simpa using hR.sum)];simp
theorem yW{N:aO}(hR:N.Right){s:LU}(h:DJ N (((aP s).map bw).filter λ w=>!kv w)):bW s=(N,0,0):=by
 obtain⟨sm,hf⟩:=Bw hR h;rw[<- nC] at hf;have hr:=rL _ _ 0 _ hf;have hs:=hR.src;have ht:=hR.snk;unfold bW;rw[hr,if_neg (by simp),if_neg (by simp;omega),if_neg (by simp)]
open Lib
theorem zS(f:LU)(n:Int)(l:LI):fH f (n::l)=fH (f++32::itoa n) l:=by
 rw[mh,mh];simp
theorem mU(f:LU)(l:LI)(h:∀ n∈l,0<=n):bw (fH f l)=bw f++l.map itoa:=by
 induction l generalizing f with
 |nil=>simp[mh]
 |cons n l ih=>
  have hn:=h n (by simp);rw[zS,ih _ λ x hx=>h x (by simp[hx]),jr rfl,nE (λ b hb=>(mN hn b hb).2) (rT hn)];simp
theorem sd{f:LU}{l:LI}(hf:∀ b∈f,b≠10)(h:∀ n∈l,0<=n):∀ b∈fH f l,b≠10:=by
 intro b hb;rw[mh] at hb
 rcases GK.1 hb with hb|hb
 ·exact hf b hb
 ·obtain⟨x,hx,hbx⟩:=List.mem_flatten.1 hb;obtain⟨n,hn,rfl⟩:=G0.1 hx
  rcases GL.1 hbx with rfl|hbx
  ·decide
  ·exact (mN (h n hn) b hbx).1
def wD(N:aO):List (LU):=fH [112,32,109,97,120] [N.nodes,N.arcs.length]::(fH [110] [N.src]++[32,115])::(fH [110] [N.snk]++[32,116])::N.arcs.map λ a=>fH [97] [a.fr,a.to,a.cap]
theorem Ae{N:aO}(hR:N.Right):∀ x∈wD N,∀ b∈x,b≠10:=by
 have hnn:=hR.nodes;have hs:=hR.src;have ht:=hR.snk;intro x hx;unfold wD at hx;simp only[GL,G0] at hx;have h110:∀ b∈([110]:LU),b≠10:=by decide
 have h115:∀ b∈([32,115]:LU),b≠10:=by decide
 have h116:∀ b∈([32,116]:LU),b≠10:=by decide
 rcases hx with rfl|rfl|rfl|⟨a,ha,rfl⟩
 ·exact sd (by decide) (λ n hn=>by simp at hn;omega)
 ·intro b hb
  rcases GK.1 hb with hb|hb
  ·exact sd h110 (λ n hn=>by simp at hn;omega) b hb
  ·exact h115 b hb
 ·intro b hb
  rcases GK.1 hb with hb|hb
  ·exact sd h110 (λ n hn=>by simp at hn;omega) b hb
  ·exact h116 b hb
 ·have:=hR.arc a ha;exact sd (by decide) (λ n hn=>by simp at hn;omega)
theorem uS:∀ (ls:List (LU)),(∀ x∈ls,∀ b∈x,b≠10)->aP ((ls.map λ x=>x++[10]).flatten)=ls
 |[],_=>rfl
 |x::ls,h=>by
  rw[GM,HX,Hd];show aP (x++10::_)=_;rw[zD (h x (by simp))];exact Gz (x::·) (uS ls λ y hy=>h y (by simp[hy]))
theorem zz(N:aO):iK N=((wD N).map λ x=>x++[10]).flatten:=by
 unfold iK iM wD;simp only[GM,HX,HZ,Hd]
 congr 1
theorem tX{N:aO}(hR:N.Right):aP (iK N)=wD N:=by rw[zz,uS _ (Ae hR)]
theorem w8:∀ {l:LI} {x:Int},(∀ y∈l,0<=y)->x∈l->x<=l.sum
 |[],_,_,h=>absurd h GV
 |y::l,x,h,hx=>by
  have h1:=su (l:=l) λ z hz=>h z (by simp[hz]);have h2:=h y (by simp);rw[GY]
  rcases GL.1 hx with rfl|hx
  ·omega
  ·have:=w8 (λ z hz=>h z (by simp[hz])) hx;omega
theorem we{N:aO}(hR:N.Right){a:dM}(ha:a∈N.arcs):a.cap<=4611686018427387903:=by
 have:=w8 (l:=N.arcs.map (·.cap)) (λ y hy=>by
  obtain⟨b,hb,rfl⟩:=G0.1 hy;exact (hR.arc b hb).2.2) (G0.2 ⟨a,ha,rfl⟩)
 have:=hR.sum;omega
theorem l8{n:Int}(h:0<=n/\n<=4611686018427387903):dp (itoa n)=(n,0):=qg n (by omega)
theorem qk{N:aO}(hR:N.Right):DJ N ((wD N).map bw):=by
 have hnn:=hR.nodes;have hs:=hR.src;have ht:=hR.snk;have hln:=hR.len;refine⟨itoa N.nodes,itoa N.arcs.length,itoa N.src,itoa N.snk,N.arcs.map λ a=>[[97],itoa a.fr,itoa a.to,itoa a.cap],?_,l8 (by omega),l8 (by omega),l8 (by omega),l8 (by omega),?_⟩
 ·unfold wD;simp only[List.map_cons,List.map_map];rw[mU _ _ (fun n hn=>by simp at hn;omega),show fH [110] [N.src]++[32,115]=fH [110] [N.src]++32::[115] from rfl,jr rfl,mU _ _ (fun n hn=>by simp at hn;omega),show fH [110] [N.snk]++[32,116]=fH [110] [N.snk]++32::[116] from rfl,jr rfl,mU _ _ (fun n hn=>by simp at hn;omega)]
  congr 1
  congr 1
  congr 1
  refine HM λ a ha=>?_;have:=hR.arc a ha;show bw (fH [97] [a.fr,a.to,a.cap])=_;rw[mU _ _ (λ n hn=>by simp at hn;omega)];rfl
 ·have key:∀ l:List dM,(∀ a∈l,a∈N.arcs)->t6 l (l.map λ a=>[[97],itoa a.fr,itoa a.to,itoa a.cap]):=by
   intro l
   induction l with
   |nil=>intro _;trivial
   |cons a l ih=>
    intro h;have:=hR.arc a (h a (by simp));have:=we hR (h a (by simp));exact⟨⟨_,_,_,rfl,l8 (by omega),l8 (by omega),l8 (by omega)⟩,ih λ b hb=>h b (by simp[hb])⟩
  exact key N.arcs λ a ha=>ha
theorem BZ{N:aO}{W:List Ws}(h:DJ N W):(W.filter λ w=>!kv w)=W:=by
 obtain⟨a,b,c,d,ws,rfl,_,_,_,_,hw⟩:=h
 have key:∀ (l:List dM) (ws:List Ws),t6 l ws->(ws.filter λ w=>!kv w)=ws:=by
  intro l
  induction l with
  |nil=>intro ws h;cases ws with
   |nil=>rfl
   |cons _ _=>exact h.elim
  |cons a l ih=>intro ws h;cases ws with
   |nil=>exact h.elim
   |cons w ws=>
    obtain⟨⟨x,y,z,rfl,_⟩,h2⟩:=h;rw[Io (by simp[kv]),ih ws h2]
 rw[Io (by simp[kv]),Io (by simp[kv]),Io (by simp[kv]),key _ _ hw]
theorem tS{N:aO}(hR:N.Right):bW (iK N)=(N,0,0):=by
 refine yW hR ?_;rw[tX hR,BZ (qk hR)];exact qk hR
open Lib
theorem rj:∀ (ls:List (LU)) (r:Rd) (i:Nat),(dY r i ls).2.2≠0->i+1<=(dY r i ls).2.1/\(dY r i ls).2.1<=i+ls.length
 |[],r,i,h=>absurd rfl h
 |x::ls,r,i,h=>by
  rw[po] at h ⊢;rw[GG];split
  ·simp only;omega
  ·rename_i h1;rw[if_neg h1] at h;have:=rj ls _ _ h;omega
theorem xT{s:LU}(h:(bW s).2.2≠0):(bW s).1=nz/\1<=(bW s).2.1/\(bW s).2.1<=(aP s).length+1:=by
 unfold bW at h ⊢;split
 ·rename_i h1;have:=rj _ _ _ h1;exact⟨rfl,by simp only;omega,by simp only;omega⟩
 ·rename_i h1;rw[if_neg h1] at h;split
  ·exact⟨rfl,by simp,by simp⟩
  ·rename_i h2;rw[if_neg h2] at h;split
   ·exact⟨rfl,by simp,by simp⟩
   ·rename_i h3;rw[if_neg h3] at h;exact absurd rfl h
theorem aO.Right.fits4{N:aO}(h:N.Right):N.Fits:=by
 have h1:=h.nodes;have h2:=h.src;have h3:=h.snk;have h4:=h.len;refine⟨by unfold bU;omega,by unfold bU;omega,by unfold bU;omega,by omega,λ a ha=>?_⟩;have h5:=h.arc a ha;have h6:=we h ha;exact⟨by unfold bU;omega,by unfold bU;omega,by unfold bU;omega⟩
open Go.RowKit
structure cF.OK (m:cF):Prop where
 net:m.a=true->m.N.Right
 fin:∀ x∈m.f,bU x
 flen:m.f.length<=100000
 slen:m.s.length<=100000
def cF.load(m:cF)(N:aO)(A:OA)(c:Nat):cF:=⟨N,[],[],true,false,false,A,c,none,0,none,0⟩
def FJ(p:Nat)(m:cF)(l:LU)(v:Value)(H':Heap):Prop:=
 ((bW l).2.2≠0/\v=qI ((bW l).2.1,(bW l).2.2)/\H'=eO p m)\/
 ((bW l).2.2=0/\∃ (A:OA) (c:Nat),v=qI (0,0)/\H'=eO p (m.load (bW l).1 A c))
set_option maxHeartbeats 1000000 in
theorem DX(V:cj)(p:Nat)(m:cF)(l:LU)(hl:l.length<=9999999):Fn 21 [.pointer (some ⟨p,0,none⟩),dK l] (aJ (eO p m)) (V.heap++eO p m) (FJ p m l):=by
 generalize hM:aJ _=M
 refine aH Tryz.func21 rfl rfl λ w0=>?_;refine ad (aa (ae [] rfl ?_));refine ad (aa (ah [] rfl ?_));refine ao [] (tH V l hl) rfl (by kernel_rfl) ⟨⟨0,by simp[cj.heap],rfl⟩,⟨1,by simp[cj.heap],rfl⟩,⟨2,by simp[cj.heap],rfl⟩,an⟩ (λ _=>rfl) ?_;rintro v H' ⟨A,c,rfl,rfl⟩;refine⟨rfl,?_⟩;refine ah [] rfl ?_;refine bu rfl rfl rfl (λ _=>rfl) λ p6=>?_;refine aB 0 rfl [] rfl ?_;refine ae [] rfl ?_;refine ad (ad (aa (ae [] rfl ?_)));refine aC rfl (λ hz=>?_) (λ hz=>aq ?_)
 ·refine ad (aa (ae [] rfl ?_));exact aA [5,6,7,8] (by decide) rfl (ax ⟨_,rfl,.inl ⟨hz,rfl,rfl⟩⟩)
 have hz:(bW l).2.2=0:=GQ.1 hz;refine ad (aa ?_);refine am (gs:=[999]) rfl ?_;refine ab [] (v:=bx (bW l).1 A c) (af 0 rfl) rfl ?_;refine ab [] (be rfl rfl rfl rfl rfl rfl) rfl ?_;refine ah [] rfl ?_;refine aB 5 rfl [] rfl ?_;refine ai ?_;refine ad (aa (ae [] rfl ?_));refine cd 3 1 ?_;refine cd 2 1 ?_;exact aA [7,3,0,1] (by decide) rfl (ax ⟨_,rfl,.inr ⟨hz,A,c,rfl,rfl⟩⟩)
def fj(p:Nat)(m:cF)(ba bf bs:Nat):Heap:=[.seg p 0 m.cells,.seg ba 0 (arcs m.N.arcs),.seg bf 0 (ay m.f),.seg bs 0 (ay m.s)]
structure cF.At (m:cF) (ba bf bs:Nat):Prop where
 n:m.N.arcs≠[]->m.An=some ⟨ba,0,none⟩
 f:m.f≠[]->m.Af=some ⟨bf,0,none⟩
 s:m.s≠[]->m.As=some ⟨bs,0,none⟩
theorem yY(m:cF)(ha:m.a=true)(p:Nat)(sg:Int)(hsg:¬ (sg=112\/sg=116\/sg=115)):Fn 22 [.pointer (some ⟨p,0,none⟩),.int .u8 sg] [] [.seg p 0 m.cells] λ v H'=>v=qI (0,1)/\H'=[]:=by
 refine aH Tryz.func22 rfl rfl λ w0=>?_;refine ad (aa (ae [] rfl ?_));refine ad (ad (aa (ah [] rfl ?_)));refine ao (fst:=[]) (cap:=[]) [] (jF m p [] (by decide) none 0 0 0 0 (λ h=>absurd rfl h) rfl) rfl (by kernel_rfl) ⟨⟨0,_,by simp,rfl,ak _ _ _,au⟩,⟨0,_,by simp,rfl,f7,.inl rfl⟩,an⟩ (λ _=>rfl) ?_;rintro v H' ⟨rfl,rfl⟩;refine⟨rfl,?_⟩;rw[qD ha];refine ae [] rfl ?_;refine ad (aa (ae [] rfl ?_));refine aC rfl (λ h=>absurd rfl h) (λ _=>aq ?_);refine ad (ad (aa (ae [] rfl ?_)));refine av (ad (ad (aa (ae [] rfl ?_))));refine eu 15 rfl (λ h=>hsg (.inl h)) ?_;refine bG rfl ?_;refine aa (ae [] rfl ?_);refine eu 15 rfl (λ h=>hsg (.inr (.inl h))) ?_;refine bG rfl ?_;refine ad (aa (ae [] rfl ?_));refine eu 32 rfl (λ h=>hsg (.inr (.inr h))) ?_;refine bG rfl ?_;refine ad (aa (ae [] rfl ?_));exact aA [] (by decide) rfl (ax ⟨_,rfl,rfl,rfl⟩)
noncomputable def cF.checkZ(m:cF):Int:=if m.lack [false,true]≠0 then m.lack [false,true] else ou m.N m.f m.s
theorem EF{m:cF}{l:LB}(h:m.lack l=0):m.a=true:=by
 cases ha:m.a with
 |true=>rfl
 |false=>rw[DO ha] at h;exact absurd h (by decide)
theorem y7(m:cF)(hm:m.OK)(p ba bf bs:Nat)(hat:m.At ba bf bs):Fn 103 [.pointer (some ⟨p,0,none⟩)] [] (fj p m ba bf bs) λ v H'=>v=.int .i64 m.checkZ/\H'=[]:=by
 have hfl:=hm.flen;refine aH Tryz.func103 rfl rfl λ w0=>?_;refine ad (aa (ae [] rfl ?_));refine ad (ad (aa (ah [] rfl ?_)));refine bC rfl rfl rfl rfl rfl rfl rfl (λ _=>rfl) λ g=>?_;refine ao (fst:=[]) (cap:=[]) [] (jF m p [false,true] (by decide) (some ⟨g,0,none⟩) 2 2 g 0 (λ _=>rfl) rfl) rfl (by kernel_rfl) ⟨⟨1,_,by simp[fj],rfl,ak _ _ _,au⟩,⟨0,_,by simp,rfl,aD _ _ _ (0,0),.inr rfl⟩,an⟩ (λ _=>rfl) ?_;rintro v H' ⟨rfl,rfl⟩;refine⟨rfl,?_⟩;refine ae [] rfl ?_;refine ad (aa (ae [] rfl ?_));refine aC rfl (λ hz=>?_) (λ hz=>aq ?_)
 ·refine ad (aa (ae [] rfl ?_));refine aA [] (by decide) rfl (ax ⟨_,rfl,?_,rfl⟩);unfold cF.checkZ;rw[if_pos hz];rfl
 have hz:m.lack [false,true]=0:=GQ.1 hz;have hR:=hm.net (EF hz);refine ad ?_;refine bq 14 (cY [0,1,2,3,4,5,6,7,8,9,10,11]++[(12,false)]++cY [13]) [1,2,3,4] (by kernel_rfl) (by decide) rfl ?_;refine az [] rfl ?_;refine aj [] (v:=bx m.N m.An m.cn) rfl (bc (i:=0) 0 rfl rfl rfl) rfl ?_;refine az [] rfl ?_;refine aj [] (v:=.slice m.Af m.f.length m.cf) rfl (bc (i:=4) 0 rfl rfl rfl) rfl ?_;refine az [] rfl ?_;refine aj [] (v:=.slice m.As m.s.length m.cs) rfl (bc (i:=5) 0 rfl rfl rfl) rfl ?_;refine aY rfl ?_;refine ao [] (zc m.N hR.fits' hR m.An m.cn ba 0 hat.n m.f hm.fin (by omega) m.Af m.cf bf 0 hat.f m.s hm.slen m.As m.cs bs 0 hat.s) rfl (by kernel_rfl) ⟨⟨2,_,by simp[fj],rfl,ak _ _ _,au⟩,⟨3,_,by simp[fj],rfl,ak _ _ _,au⟩,⟨4,_,by simp[fj],rfl,ak _ _ _,au⟩,an⟩ (λ _=>rfl) ?_;rintro v H' ⟨rfl,rfl⟩;refine⟨rfl,?_⟩;refine ai ⟨⟨[1,2,3,4],by decide,rfl⟩,?_⟩;refine az [] rfl ?_;refine bp ?_;refine ai ?_;refine aA [] (by decide) rfl (ax ⟨_,rfl,?_,rfl⟩);unfold cF.checkZ;rw[if_neg (λ h=>h hz)];rfl
def Gv(g:Gr)(e:FB):Prop:=(1<=e.l/\e.l<=g.left)/\(1<=e.r/\e.r<=g.right)
open Classical in
noncomputable def o3(g:Gr):Int:=if ¬ ((1<=g.left/\g.left<=200)/\(1<=g.right/\g.right<=200)) then 3 else if ∀ e∈g.edges,Gv g e then 0 else 4
end Go.Proofs.YtmcnpaelaieniaaGreatDoor
