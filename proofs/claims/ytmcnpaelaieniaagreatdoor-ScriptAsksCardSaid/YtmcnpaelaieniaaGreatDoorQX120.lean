import Derived.Test.YtmcnpaelaieniaaGreatDoorQX134
/- A part of the proof. -/
set_option linter.unusedVariables false
set_option linter.unusedSimpArgs false
set_option maxHeartbeats 8000000
namespace Go.Proofs.YtmcnpaelaieniaaGreatDoor
open Lib
theorem zp{n:Int}(h:0<=n):itoa n=decDigits n.toNat:=by
 unfold itoa;rw[if_neg aa]
theorem Jp{b:UInt8}(h:sf b=true):b≠10/\sZ b=false:=by
 unfold sf at h;have a:=of_decide_eq_true h;refine⟨λ e=>?_,?_⟩
 ·subst e;simp at a
 ·unfold sZ;have c:b.toNat≠32:=aa;have d:b.toNat≠9:=aa;have f:b.toNat≠13:=aa;simp[c,d,f]
theorem qJ{n:Int}(h:0<=n):∀ b∈itoa n,b≠10/\sZ b=false:=by
 intro b a;rw[zp h] at a;exact Jp (PL.1 (xq _) b a)
theorem xL{n:Int}(h:0<=n):itoa n≠[]:=by rw[zp h];exact yH _
theorem DG{m:LU_}(h:∀ b∈m,b≠10)(t:LU_):aK (m++10::t)=m::aK t:=by
 rw[Ff,iF,kh 10 m [] h];rfl
theorem rH{m:LU_}(h:∀ b∈m,sZ b=false)(a:m≠[]):bI m=[m]:=by
 unfold bI;have:=mB m [] [] h;rw[NL] at this;rw[this];simp[cZ,a]
theorem JP{k:Int}(h:0<=k):bI ([112,32,109,97,120,32,50,32]++itoa k)=[[112],[109,97,120],[50],itoa k]:=by
 rw[show ([112,32,109,97,120,32,50,32]:LU_)++itoa k=[112,32,109,97,120,32,50]++32::itoa k from rfl,ma rfl,rH (λ b a=>(qJ h b a).2) (xL h)];rfl
theorem Kk{c:Int}(h:0<=c):bI ([97,32,49,32,50,32]++itoa c)=[[97],[49],[50],itoa c]:=by
 rw[show ([97,32,49,32,50,32]:LU_)++itoa c=[97,32,49,32,50]++32::itoa c from rfl,ma rfl,rH (λ b a=>(qJ h b a).2) (xL h)];rfl
def K6(k c:Int)(j:Nat):Rd:=⟨2,2,1,List.replicate j ⟨1,2,c⟩,k,j*c⟩
theorem KE:et [50]=(2,0):=ab
theorem MD:et [49]=(1,0):=ab
theorem Rd.line_p(r:Rd)(w:Ws):r.line ([112]::w)=r.problem ([112]::w):=by simp[Rd.line]
theorem Rd.line_n(r:Rd)(w:Ws):r.line ([110]::w)=r.end_ ([110]::w):=by simp[Rd.line]
theorem Rd.line_a(r:Rd)(w:Ws):r.line ([97]::w)=r.arc ([97]::w):=by simp[Rd.line]
theorem uT(r:Rd)(i:Nat)(x:LU_)(ls:List (LU_)):fk r i (x::ls)=if (r.line (bI x)).2≠0 then (r,i+1,(r.line (bI x)).2) else fk (r.line (bI x)).1 (i+1) ls:=rfl
theorem MX{k:Int}(h:0<=k/\k<=2000):tg.line (bI ([112,32,109,97,120,32,50,32]++itoa k))=(⟨2,0,0,[],k,0⟩,0):=by
 rw[JP h.1]
 have a:aS [[50],itoa k]=([2,k],0):=by
  unfold aS;unfold aS;unfold aS;rw[uC k aa,KE];rfl
 rw[Rd.line_p];unfold Rd.problem;rw[if_neg (by simp[tg]),show List.drop 2 [[112],[109,97,120],[50],itoa k]=[[50],itoa k] from rfl,a];rw[if_neg ai,if_neg eS];rfl
theorem MS{k c:Int}(a:0<=c/\c<=4611686018427387903){j:Nat}(f:(j:Int)<k):(K6 k c j).line (bI ([97,32,49,32,50,32]++itoa c))=if 4611686018427387903<j*c+c then (K6 k c j,7) else (K6 k c (j+1),0):=by
 rw[Kk a.1]
 have b:aS [[49],[50],itoa c]=([1,2,c],0):=by
  unfold aS;unfold aS;unfold aS;unfold aS;rw[uC c aa,KE,MD];rfl
 rw[Rd.line_a];unfold Rd.arc;rw[if_neg (by simp[K6]),show List.drop 1 [[97],[49],[50],itoa c]=[[49],[50],itoa c] from rfl,b];rw[if_neg ai,if_neg (by simp[K6]),if_neg eS,if_neg (by simp[K6];omega)];show (if 4611686018427387903<(j:Int)*c+c then _ else _)=_;split
 ·rfl
 ·refine Prod.ext ?_ rfl;unfold K6;have e:(List.replicate j (eq.mk 1 2 c))++[⟨1,2,c⟩]=List.replicate (j+1) ⟨1,2,c⟩:=by rw[List.replicate_succ']
  have d:(j:Int)*c+c=((j+1:Nat):Int)*c:=by rw[Pu,Int.add_mul];simp
  show Rd.mk 2 2 1 (List.replicate j (eq.mk 1 2 c)++[⟨1,2,c⟩]) k ((j:Int)*c+c)=_;rw[e,d]
open Go.RowKit
open Lib
def rS(a:eq):LU_:=gG [97] [a.fr,a.to,a.cap]++[10]
def kO(N:aR):LU_:=(gG [112,32,109,97,120] [N.nodes,N.arcs.length]++[10])++(((gG [110] [N.src]++[32,115,10])++gG [110] [N.snk])++[32,116,10])
def jf(N:aR):LU_:=kO N++(N.arcs.map rS).flatten
noncomputable def t8(N:aR):Value:=.tuple #[du (if dt N=0 then jf N else []),.int .i64 (if dt N=0 then 0 else 1)]
theorem ID(V:LibV)(N:aR)(t:N.Fits)(A:OA_)(c b o:Nat)(O:N.arcs≠[]->A=some ⟨b,o,none⟩):Fn 29 [cd N A c] [] ([.seg b o (arcs N.arcs)]++V.heap) λ v H'=>v=t8 N/\H'=[]:=by
 refine KV Tryz.func29 rfl rfl λ w0=>bA ?_;refine A8 (cs:=bY N A c) rfl rfl rfl (λ _=>rfl) λ y=>c8 [] rfl<|am<|bA ?_;refine ae [] (v:=cd N A c) (ad 0 rfl) rfl<|uW [] (nX N t A c b o O) rfl (by kernel_rfl) ⟨⟨1,_,by simp,rfl,bn _ _ _,cC⟩,be⟩ (λ _=>rfl)<|jP ?_;refine c8 [] rfl<|ak rfl (λ D=>?_) (λ D=>ag ?_)
 ·refine bA ?_;refine c8 [] rfl<|hZ [] (by decide) rfl (bM ⟨_,rfl,?_,rfl⟩);unfold t8;rw[if_neg D,if_neg D];rfl
 have q:dt N=0:=Nn.1 D;have P:=lj q;have U:=P.nodes;have Y:=P.len
 have d:∀ n:Int,(n=N.nodes\/n=N.arcs.length\/n=N.src\/n=N.snk)->b9 n:=by
  rintro n (rfl|rfl|rfl|rfl)
  ·exact t.nodes
  ·unfold b9;omega
  ·exact t.src
  ·exact t.snk
 refine bA ?_;refine nq rfl rfl rfl (λ _=>rfl) λ j=>l5 5 1<|cK (K:=vg j (.pointer none) none 0 []++[blk y 33 (bY N A c),.seg b o (arcs N.arcs)]++V.heap) (aw.picks [1,0,2,3,4,5,6] (by decide) rfl)<|c8 [] rfl<|bA ?_;refine fS [] rfl<|ae [] (bz (i:=0) (v:=af N.nodes) 2 rfl rfl rfl rfl) rfl<|fS [] rfl<|ae [] (bz (i:=3) (v:=.slice A N.arcs.length c) 2 rfl rfl rfl rfl) rfl<|fS [] rfl<|b5 rfl rfl rfl rfl rfl rfl rfl (λ _=>rfl) λ g=>?_;refine uW [] (kp V [112,32,109,97,120] (by decide) [N.nodes,N.arcs.length] (λ n e=>d n (by simp at e;omega)) (by simp) _ 2 _ g 0 (λ _=>rfl) rfl) rfl (by kernel_rfl) ⟨⟨0,_,by simp,rfl,aQ _ _ _ (0,0),.inr rfl⟩,⟨5,by simp,rfl⟩,⟨6,by simp,rfl⟩,⟨7,by simp,rfl⟩,be⟩ (λ _=>rfl)<|jP ?_;have F:=fi [112,32,109,97,120] [N.nodes,N.arcs.length] (λ n e=>d n (by simp at e;omega));simp only[Nf,NA] at F;refine ae [] (iv (m:=[10]) rfl rfl rfl (by simp;omega)) rfl<|bJ (fst:=[]) (cap:=[]) [] (xw j (.pointer none) (.inl rfl) none 0 [] (gG [112,32,109,97,120] [N.nodes,N.arcs.length]++[10]) (by simp;omega)) rfl rfl rfl rfl (by kernel_rfl) (K:=[blk y 33 (bY N A c),.seg b o (arcs N.arcs)]++V.heap) (aw.picks [1,2,3,4,5,6,7] (by decide) rfl) be (λ _=>rfl)<|?_;rintro v H' ⟨A1,Z,rfl⟩;refine dE ?_;refine c8 [] rfl<|iB (σ:=OA_×Nat) (λ s=>[(1,ap y 0),(4,ap j 0)]) (λ s=>vg j (ap j 0) s.1 s.2 (kO N)++[blk y 33 (bY N A c),.seg b o (arcs N.arcs)]++V.heap) ?_ ?_
 ·refine lz (Sf:=[blk y 33 (bY N A c)])<|jY [0,1,5,6] (by decide+kernel) [2] (by decide) rfl<|qZ ?_;refine cP ?_;have z:=fi [110] [N.src] (fun n e=>d n (by simp at e;omega));have B:=fi [110] [N.snk] (fun n e=>d n (by simp at e;omega));simp only[List.length_cons,List.length_nil] at z B
  (repeat' (first|exact be|refine av 2 [7] (by decide+kernel) (by decide) ?_|refine av 2 [] (by decide+kernel) (by decide) ?_|refine av 3 [7] (by decide+kernel) (by decide) ?_|refine av 3 [] (by decide+kernel) (by decide) ?_|refine av 4 [7] (by decide+kernel) (by decide) ?_|refine av 4 [8] (by decide+kernel) (by decide) ?_|refine av 4 [] (by decide+kernel) (by decide) ?_|refine av 7 [] (by decide+kernel) (by decide) ?_|refine av 8 [] (by decide+kernel) (by decide) ?_|refine av 9 [] (by decide+kernel) (by decide) ?_|refine av 10 [] (by decide+kernel) (by decide) ?_|refine av 11 [] (by decide+kernel) (by decide) ?_|refine⟨⟨_,rfl,?_⟩,?_⟩|(refine b5 rfl rfl rfl rfl rfl rfl rfl (λ _=>rfl) λ g3=>?_;refine cK (aw.picks [1,2,3,4,5,6,7,8,0] (by decide) rfl) ?_;refine ah ⟨⟨[2],by decide,rfl⟩,?_⟩)|(refine b5 rfl rfl rfl rfl rfl rfl rfl (λ _=>rfl) λ g2=>?_;refine cK (aw.picks [1,2,3,4,5,6,7,0] (by decide) rfl) ?_;refine ah ⟨⟨[2],by decide,rfl⟩,?_⟩)|(refine bj [] (kp V [110] (by decide) [N.src] (λ n e=>d n (by simp at e;omega)) (by simp) _ 1 _ _ 0 (λ _=>rfl) rfl) rfl rfl rfl rfl (by kernel_rfl) ⟨⟨7,_,by simp,rfl,aQ _ _ _ (0,0),.inr rfl⟩,⟨4,by simp,rfl⟩,⟨5,by simp,rfl⟩,⟨6,by simp,rfl⟩,be⟩ (λ _=>rfl) ?_;rintro v H' ⟨rfl,rfl⟩;refine⟨rfl,ah ⟨⟨[2],by decide,rfl⟩,?_⟩⟩)|(refine bj [] (kp V [110] (by decide) [N.src] (λ n e=>d n (by simp at e;omega)) (by simp) _ 1 _ _ 0 (λ _=>rfl) rfl) rfl rfl rfl rfl (by kernel_rfl) ⟨⟨8,_,by simp,rfl,aQ _ _ _ (0,0),.inr rfl⟩,⟨4,by simp,rfl⟩,⟨5,by simp,rfl⟩,⟨6,by simp,rfl⟩,be⟩ (λ _=>rfl) ?_;rintro v H' ⟨rfl,rfl⟩;refine⟨rfl,ah ⟨⟨[2],by decide,rfl⟩,?_⟩⟩)|(refine bj [] (kp V [110] (by decide) [N.snk] (λ n e=>d n (by simp at e;omega)) (by simp) _ 1 _ _ 0 (λ _=>rfl) rfl) rfl rfl rfl rfl (by kernel_rfl) ⟨⟨7,_,by simp,rfl,aQ _ _ _ (0,0),.inr rfl⟩,⟨4,by simp,rfl⟩,⟨5,by simp,rfl⟩,⟨6,by simp,rfl⟩,be⟩ (λ _=>rfl) ?_;rintro v H' ⟨rfl,rfl⟩;refine⟨rfl,ah ⟨⟨[2],by decide,rfl⟩,?_⟩⟩)|(refine bj [] (kp V [110] (by decide) [N.snk] (λ n e=>d n (by simp at e;omega)) (by simp) _ 1 _ _ 0 (λ _=>rfl) rfl) rfl rfl rfl rfl (by kernel_rfl) ⟨⟨8,_,by simp,rfl,aQ _ _ _ (0,0),.inr rfl⟩,⟨4,by simp,rfl⟩,⟨5,by simp,rfl⟩,⟨6,by simp,rfl⟩,be⟩ (λ _=>rfl) ?_;rintro v H' ⟨rfl,rfl⟩;refine⟨rfl,ah ⟨⟨[2],by decide,rfl⟩,?_⟩⟩)|(refine ae [] (iv (m:=[32,115,10]) rfl rfl rfl (by simp;omega)) rfl ?_;refine ah ⟨⟨[2],by decide,rfl⟩,?_⟩)|(refine ae [] (iv (m:=[32,116,10]) rfl rfl rfl (by simp;omega)) rfl ?_;refine ah ⟨⟨[2],by decide,rfl⟩,?_⟩)|(refine ae [] (iv rfl rfl rfl (by simp;omega)) rfl ?_;refine ah ⟨⟨[2],by decide,rfl⟩,?_⟩)|(refine bJ (fst:=[]) (cap:=[]) [] (xw j (ap j 0) (.inr rfl) A1 Z ([]++(gG [112,32,109,97,120] [N.nodes,N.arcs.length]++[10])) (((gG [110] [N.src]++[32,115,10])++gG [110] [N.snk])++[32,116,10]) (by simp;omega)) rfl rfl rfl rfl (by kernel_rfl) aw.refl be (λ _=>rfl) ?_;rintro v H' ⟨Q,c2,rfl⟩;refine⟨rfl,ah ⟨⟨[2],by decide,rfl⟩,?_⟩⟩;exact fb (by decide+kernel) ⟨(_,_),⟨rfl,rfl,be⟩,aw.picks [0,1,2,3,4,5,6] (by decide) rfl⟩)))
 rintro⟨Q,c2⟩
 have h3:(kO N).length<=400:=by
  have z:=fi [110] [N.src] (λ n e=>d n (by simp at e;omega));have B:=fi [110] [N.snk] (λ n e=>d n (by simp at e;omega));unfold kO;simp only[Ng,Nf,NA] at*;omega
 have p:∀ a∈N.arcs,(rS a).length<=70:=λ a u=>by
  have E:=t.arc a u;have:=fi [97] [a.fr,a.to,a.cap] (λ n e=>by simp at e;rcases e with rfl|rfl|rfl;exact E.1;exact E.2.1;exact E.2.2);unfold rS;simp only[Ng,Nf,NA] at*;omega
 have H:∀ l:List eq,(∀ a∈l,a∈N.arcs)->((l.map rS).flatten).length<=l.length*70:=by
  intro l
  induction l with
  |nil=>intro _;simp
  |cons a l ih=>
   intro h;have E:=p a (h a (by simp));have h2:=ih λ x I=>h x (by simp[I]);simp only[Ns,Oy,Ng,Nf];omega
 simp only;refine bA ?_;refine fS [] rfl<|ae [] (bz (i:=3) (v:=.slice A N.arcs.length c) 2 rfl rfl rfl rfl) rfl<|c8 [] rfl<|gz ?_
 refine bS (σ:=Nat×OA_×Nat) (λ s=>[(34,af s.1),(33,af N.arcs.length),(32,.slice A N.arcs.length c),(4,ap j 0)])
  (λ s=>vg j (ap j 0) s.2.1 s.2.2 (kO N++((N.arcs.take s.1).map rS).flatten)++[.seg b o (arcs N.arcs)]++V.heap)
  (λ s=>s.1<=N.arcs.length) (λ s=>N.arcs.length-s.1) (0,Q,c2) [0,1,3,4,5,6] ⟨rfl,rfl,rfl,rfl,be⟩ (by decide) (by simp;rfl) (Nk _) ?_
 rintro⟨k,R,c3⟩ hk;simp only at hk ⊢;refine bA ?_;refine c8 [] rfl<|am (ak rfl (λ hy=>ag ?_) (λ hv=>aO ?_))
 ·have f:k<N.arcs.length:=by omega
  obtain⟨a,u⟩:∃ a,N.arcs[k]?=some a:=⟨N.arcs[k],an f⟩;obtain rfl:=O (by intro h;rw[h] at f;simp at f);have r:=t.arc a (M9 u);have C:=p a (M9 u);have L:=H (N.arcs.take k) (λ x I=>Od I);rw[ND] at L;refine am (au ?_);refine am<|bA ?_;refine fS [] rfl<|ae [] (j9 rfl f) rfl<|ae [] (a7 2 rfl rfl (jm u)) rfl<|nq rfl rfl rfl (λ _=>rfl) λ p6=>fG 0 rfl [] rfl<|c8 [] rfl<|?_;refine bA ?_;refine fS [] rfl<|ae [] (bz (i:=0) (v:=af a.fr) 0 rfl rfl rfl rfl) rfl<|fS [] rfl<|ae [] (bz (i:=1) (v:=af a.to) 0 rfl rfl rfl rfl) rfl<|fS [] rfl<|ae [] (bz (i:=2) (v:=af a.cap) 0 rfl rfl rfl rfl) rfl<|?_;refine b5 rfl rfl rfl rfl rfl rfl rfl (λ _=>rfl) λ g=>uW [] (kp V [97] (by decide) [a.fr,a.to,a.cap] (λ n e=>by simp at e;rcases e with rfl|rfl|rfl;exact r.1;exact r.2.1;exact r.2.2) (by simp) _ 3 _ g 0 (λ _=>rfl) rfl) rfl (by kernel_rfl) ⟨⟨0,_,by simp,rfl,aQ _ _ _ (0,0),.inr rfl⟩,⟨5,by simp,rfl⟩,⟨6,by simp,rfl⟩,⟨7,by simp,rfl⟩,be⟩ (λ _=>rfl)<|jP ?_;have S:(gG [97] [a.fr,a.to,a.cap]).length<=69:=by unfold rS at C;simp at C;omega
  refine ae [] (iv (m:=[10]) rfl rfl rfl (by simp;omega)) rfl<|bJ (fst:=[]) (cap:=[]) [] (xw j _ (.inr rfl) R c3 (kO N++((N.arcs.take k).map rS).flatten) (rS a) (by rw[Ng];omega)) rfl rfl rfl rfl (by kernel_rfl) (K:=[.seg b o (arcs N.arcs)]++V.heap) (aw.picks [2,3,4,5,6,7] (by decide) rfl) be (λ _=>rfl)<|?_;rintro v H' ⟨A4,c4,rfl⟩;refine dE ?_;refine c8 [] rfl<|bA ?_;refine c8 [] rfl ?_;have M:kO N++((N.arcs.take (k+1)).map rS).flatten=kO N++((N.arcs.take k).map rS).flatten++rS a:=by rw[Nv,u];simp
  refine⟨(k+1,A4,c4),[0,1,2,3,4,5],⟨?_,rfl,rfl,rfl,be⟩,by decide,?_,by simp only;omega,by simp only;omega⟩
  ·refine fJ ?_;rw[cv (by omega)];rfl
  ·simp only[M];rfl
 obtain rfl:k=N.arcs.length:=by omega
 rw[NH];refine bA ?_;refine fS [] rfl<|Jn (X:=⟨w0,[],_⟩) [] rfl (λ w hw=>Li rfl j _ (.inr rfl) R c3 (jf N) hw) rfl rfl rfl rfl (by kernel_rfl) rfl<|c8 [] rfl<|bM ⟨_,rfl,?_,rfl⟩;unfold t8;rw[if_pos q,if_pos q];rfl
open Lib
def kG(r:Rd):List Ws->Option Rd
 |[]=>some r
 |w::ws=>if (r.line w).2≠0 then none else kG (r.line w).1 ws
theorem wL:∀ (ls:List (LU_)) (r:Rd) (i:Nat) (a:Rd),kG r (ls.map bI)=some a->fk r i ls=(a,0,0)
 |[],r,i,a,h=>by simp only[kG,Oi,Na] at h;subst h;rfl
 |x::ls,r,i,a,h=>by
  rw[Ns,kG] at h;rw[uT];split at h
  ·cases h
  ·rename_i b;rw[if_neg b];exact wL ls _ _ a h
def oc(w:Ws):Bool:=match w with
 |[]=>true
 |x::_=>x==[99]
theorem E8{w:Ws}(h:oc w=true)(r:Rd):r.line w=(r,0):=by
 unfold oc at h;unfold Rd.line;split
 ·rfl
 ·rename_i x l;simp only[beq_iff_eq] at h;rw[if_pos h]
theorem rK:∀ (ws:List Ws) (r:Rd),kG r ws=kG r (ws.filter λ w=>!oc w)
 |[],r=>rfl
 |w::ws,r=>by
  rw[kG]
  cases h:oc w with
  |true=>
   rw[E8 h,if_neg ai,List.filter_cons_of_neg (by simp[h])];exact rK ws r
  |false=>
   rw[O6 (by simp[h]),kG];split
   ·rfl
   ·exact rK ws _
def yC:List eq->List Ws->Prop
 |[],[]=>True
 |a::l,w::ws=>(∃ x y z,w=[[97],x,y,z]/\et x=(a.fr,0)/\et y=(a.to,0)/\et z=(a.cap,0))/\yC l ws
 |_,_=>False
def J9(N:aR)(W:List Ws):Prop:=∃ a b c d ws,W=[[112],[109,97,120],a,b]::[[110],c,[115]]::[[110],d,[116]]::ws/\et a=(N.nodes,0)/\et b=((N.arcs.length:Int),0)/\et c=(N.src,0)/\et d=(N.snk,0)/\yC N.arcs ws
theorem Gs{x:LU_}{n:Int}(h:et x=(n,0)):aS [x]=([n],0):=by
 unfold aS;unfold aS;rw[h];rfl
theorem KK{x y:LU_}{n m:Int}(h:et x=(n,0))(k:et y=(m,0)):aS [x,y]=([n,m],0):=by
 unfold aS;rw[h,Gs k];rfl
theorem Mp{x y z:LU_}{n m p:Int}(h:et x=(n,0))(k:et y=(m,0))(j:et z=(p,0)):aS [x,y,z]=([n,m,p],0):=by
 unfold aS;rw[h,KK k j];rfl
theorem wn:∀ (l:List eq) (ws:List Ws) (r:Rd),yC l ws->r.src≠0->r.snk≠0->(∀ a∈l,(1<=a.fr/\a.fr<=r.nodes)/\(1<=a.to/\a.to<=r.nodes)/\0<=a.cap)->(r.arcs.length:Int)+l.length<=r.most->
 0<=r.sum->r.sum+(l.map (·.cap)).sum<=4611686018427387903->kG r ws=some { r with arcs:=r.arcs++l,sum:=r.sum+(l.map (·.cap)).sum }
 |[],[],r,_,_,_,_,_,_,_=>by simp[kG]
 |[],_::_,_,h,_,_,_,_,_,_=>h.elim
 |_::_,[],_,h,_,_,_,_,_,_=>h.elim
 |a::l,w::ws,r,⟨⟨x,y,z,hw,i,j,k⟩,h⟩,f,g,d,m,s,n=>by
  subst hw;have t:=d a ai
  have o:0<=(l.map (·.cap)).sum:=xC λ c p=>by
   obtain⟨b,e,rfl⟩:=NB.1 p;exact (d b (by simp[e])).2.2
  rw[Ns,NC] at n;rw[Nf] at m
  have hl:r.line [[97],x,y,z]=({ r with sum:=r.sum+a.cap,arcs:=r.arcs++[a] },0):=by
   rw[Rd.line_a];unfold Rd.arc;rw[if_neg (by simp[f,g]),show List.drop 1 [[97],x,y,z]=[x,y,z] from rfl,Mp i j k];rw[if_neg ai,if_neg eS,if_neg eS,if_neg aa,if_neg eS];rfl
  rw[kG,hl,if_neg ai];have q:=wn l ws { r with sum:=r.sum+a.cap,arcs:=r.arcs++[a] } h f g (λ b e=>d b (by simp[e])) (by simp only[Ng,Nf,NA];omega) (by simp only;omega) (by simp only;omega);rw[q];simp[Int.add_assoc]
theorem GT{N:aR}(e:N.Right){W:List Ws}(h:J9 N W):∃ sm,kG tg W=some ⟨N.nodes,N.src,N.snk,N.arcs,N.arcs.length,sm⟩:=by
 obtain⟨a,b,c,d,ws,rfl,f,g,i,j,hw⟩:=h;have k:=e.nodes;have q:=e.src;have r:=e.snk;have l:=e.len;have m:=e.diff
 have n:tg.line [[112],[109,97,120],a,b]=(⟨N.nodes,0,0,[],N.arcs.length,0⟩,0):=by
  rw[Rd.line_p];unfold Rd.problem;rw[if_neg (by simp[tg]),show List.drop 2 [[112],[109,97,120],a,b]=[a,b] from rfl,KK f g,if_neg ai,if_neg eS];rfl
 have o:Rd.line ⟨N.nodes,0,0,[],N.arcs.length,0⟩ [[110],c,[115]]=(⟨N.nodes,N.src,0,[],N.arcs.length,0⟩,0):=by
  rw[Rd.line_n];unfold Rd.end_;rw[if_neg (by simp<;>omega),if_pos (by rfl),if_neg ai,show [[110],c,[115]].getD 1 []=c from rfl,Gs i,if_neg ai,if_neg eS,if_neg eS];rfl
 have p:Rd.line ⟨N.nodes,N.src,0,[],N.arcs.length,0⟩ [[110],d,[116]]=(⟨N.nodes,N.src,N.snk,[],N.arcs.length,0⟩,0):=by
  rw[Rd.line_n];unfold Rd.end_;rw[if_neg (by simp<;>omega),if_neg ai,if_pos (by rfl),if_neg ai,show [[110],d,[116]].getD 1 []=d from rfl,Gs j,if_neg ai,if_neg eS,if_neg eS];rfl
 refine⟨0+(N.arcs.map (·.cap)).sum,?_⟩;rw[kG,n,if_neg ai,kG,o,if_neg ai,kG,p,if_neg ai];rw[wn N.arcs ws ⟨N.nodes,N.src,N.snk,[],N.arcs.length,0⟩ hw (by simp only;omega) (by simp only;omega) e.arc ai ai (by simpa using e.sum)];simp
theorem Ep{N:aR}(a:N.Right){s:LU_}(h:J9 N (((aK s).map bI).filter λ w=>!oc w)):cR s=(N,0,0):=by
 obtain⟨sm,b⟩:=GT a h;rw[<- rK] at b;have c:=wL _ _ 0 _ b;have d:=a.src;have e:=a.snk;unfold cR;rw[c,if_neg ai,if_neg eS,if_neg ai]
open Lib
theorem Hv(f:LU_)(n:Int)(l:LI_):gG f (n::l)=gG (f++32::itoa n) l:=by
 rw[sj,sj];simp
theorem rf(f:LU_)(l:LI_)(h:∀ n∈l,0<=n):bI (gG f l)=bI f++l.map itoa:=by
 induction l generalizing f with
 |nil=>simp[sj]
 |cons n l c=>
  have a:=h n ai;rw[Hv,c _ λ x d=>h x (by simp[d]),ma rfl,rH (λ b e=>(qJ a b e).2) (xL a)];simp
theorem xu{f:LU_}{l:LI_}(d:∀ b∈f,b≠10)(h:∀ n∈l,0<=n):∀ b∈gG f l,b≠10:=by
 intro b c;rw[sj] at c
 rcases Nm.1 c with c|c
 ·exact d b c
 ·obtain⟨x,e,a⟩:=List.mem_flatten.1 c;obtain⟨n,g,rfl⟩:=NB.1 e
  rcases Nl.1 a with rfl|a
  ·decide
  ·exact (qJ (h n g) b a).1
def AW(N:aR):List (LU_):=gG [112,32,109,97,120] [N.nodes,N.arcs.length]::(gG [110] [N.src]++[32,115])::(gG [110] [N.snk]++[32,116])::N.arcs.map λ a=>gG [97] [a.fr,a.to,a.cap]
theorem Ga{N:aR}(h:N.Right):∀ x∈AW N,∀ b∈x,b≠10:=by
 have j:=h.nodes;have l:=h.src;have m:=h.snk;intro x i;unfold AW at i;simp only[Nl,NB] at i;have d:∀ b∈([110]:LU_),b≠10:=ab;have f:∀ b∈([32,115]:LU_),b≠10:=ab;have g:∀ b∈([32,116]:LU_),b≠10:=ab
 rcases i with rfl|rfl|rfl|⟨a,k,rfl⟩
 ·exact xu ab (λ n e=>by simp at e;omega)
 ·intro b c
  rcases Nm.1 c with c|c
  ·exact xu d (λ n e=>by simp at e;omega) b c
  ·exact f b c
 ·intro b c
  rcases Nm.1 c with c|c
  ·exact xu d (λ n e=>by simp at e;omega) b c
  ·exact g b c
 ·have:=h.arc a k;exact xu ab (λ n e=>by simp at e;omega)
theorem q6:∀ (ls:List (LU_)),(∀ x∈ls,∀ b∈x,b≠10)->aK ((ls.map λ x=>x++[10]).flatten)=ls
 |[],_=>rfl
 |x::ls,h=>by
  rw[Ns,Oy,NI];show aK (x++10::_)=_;rw[DG (h x ai)];exact M8 (x::·) (q6 ls λ y a=>h y (by simp[a]))
theorem EJ(N:aR):jf N=((AW N).map λ x=>x++[10]).flatten:=by
 unfold jf kO AW;simp only[Ns,Oy,OD,NI]
 congr 1
theorem y4{N:aR}(a:N.Right):aK (jf N)=AW N:=by rw[EJ,q6 _ (Ga a)]
theorem Df:∀ {l:LI_} {x:Int},(∀ y∈l,0<=y)->x∈l->x<=l.sum
 |[],_,_,h=>absurd h Nr
 |y::l,x,h,a=>by
  have c:=xC (l:=l) λ z b=>h z (by simp[b]);have d:=h y ai;rw[NC]
  rcases Nl.1 a with rfl|a
  ·omega
  ·have:=Df (λ z b=>h z (by simp[b])) a;omega
theorem Br{N:aR}(c:N.Right){a:eq}(d:a∈N.arcs):a.cap<=4611686018427387903:=by
 have:=Df (l:=N.arcs.map (·.cap)) (λ y e=>by
  obtain⟨b,f,rfl⟩:=NB.1 e;exact (c.arc b f).2.2) (NB.2 ⟨a,d,rfl⟩)
 have:=c.sum;omega
theorem pW{n:Int}(h:0<=n/\n<=4611686018427387903):et (itoa n)=(n,0):=uC n aa
theorem uX{N:aR}(c:N.Right):J9 N ((AW N).map bI):=by
 have f:=c.nodes;have k:=c.src;have m:=c.snk;have g:=c.len;refine⟨itoa N.nodes,itoa N.arcs.length,itoa N.src,itoa N.snk,N.arcs.map λ a=>[[97],itoa a.fr,itoa a.to,itoa a.cap],?_,pW aa,pW aa,pW aa,pW aa,?_⟩
 ·unfold AW;simp only[List.map_cons,List.map_map];rw[rf _ _ (fun n d=>by simp at d;omega),show gG [110] [N.src]++[32,115]=gG [110] [N.src]++32::[115] from rfl,ma rfl,rf _ _ (fun n d=>by simp at d;omega),show gG [110] [N.snk]++[32,116]=gG [110] [N.snk]++32::[116] from rfl,ma rfl,rf _ _ (fun n d=>by simp at d;omega)]
  congr 1
  congr 1
  congr 1
  refine Oq λ a e=>?_;have:=c.arc a e;show bI (gG [97] [a.fr,a.to,a.cap])=_;rw[rf _ _ (λ n d=>by simp at d;omega)];rfl
 ·have key:∀ l:List eq,(∀ a∈l,a∈N.arcs)->yC l (l.map λ a=>[[97],itoa a.fr,itoa a.to,itoa a.cap]):=by
   intro l
   induction l with
   |nil=>intro _;trivial
   |cons a l i=>
    intro h;have:=c.arc a (h a ai);have:=Br c (h a ai);exact⟨⟨_,_,_,rfl,pW aa,pW aa,pW aa⟩,i λ b j=>h b (by simp[j])⟩
  exact key N.arcs λ a e=>e
theorem Ha{N:aR}{W:List Ws}(h:J9 N W):(W.filter λ w=>!oc w)=W:=by
 obtain⟨a,b,c,d,ws,rfl,_,_,_,_,hw⟩:=h
 have key:∀ (l:List eq) (ws:List Ws),yC l ws->(ws.filter λ w=>!oc w)=ws:=by
  intro l
  induction l with
  |nil=>intro ws h;cases ws with
   |nil=>rfl
   |cons _ _=>exact h.elim
  |cons a l e=>intro ws h;cases ws with
   |nil=>exact h.elim
   |cons w ws=>
    obtain⟨⟨x,y,z,rfl,_⟩,f⟩:=h;rw[O6 (by simp[oc]),e ws f]
 rw[O6 (by simp[oc]),O6 (by simp[oc]),O6 (by simp[oc]),key _ _ hw]
theorem sK{N:aR}(a:N.Right):cR (jf N)=(N,0,0):=by
 refine Ep a ?_;rw[y4 a,Ha (uX a)];exact uX a
open Lib
theorem wP:∀ (ls:List (LU_)) (r:Rd) (i:Nat),(fk r i ls).2.2≠0->i+1<=(fk r i ls).2.1/\(fk r i ls).2.1<=i+ls.length
 |[],r,i,h=>absurd rfl h
 |x::ls,r,i,h=>by
  rw[uT] at h ⊢;rw[Nf];split
  ·simp only;omega
  ·rename_i a;rw[if_neg a] at h;have:=wP ls _ _ h;omega
theorem v8{s:LU_}(h:(cR s).2.2≠0):(cR s).1=vB/\1<=(cR s).2.1/\(cR s).2.1<=(aK s).length+1:=by
 unfold cR at h ⊢;split
 ·rename_i a;have:=wP _ _ _ a;exact⟨rfl,by simp only;omega,by simp only;omega⟩
 ·rename_i a;rw[if_neg a] at h;split
  ·exact⟨rfl,ai,ai⟩
  ·rename_i b;rw[if_neg b] at h;split
   ·exact⟨rfl,ai,ai⟩
   ·rename_i c;rw[if_neg c] at h;exact absurd rfl h
theorem aR.Right.fits4{N:aR}(h:N.Right):N.Fits:=by
 have c:=h.nodes;have d:=h.src;have e:=h.snk;have f:=h.len;refine⟨by unfold b9;omega,by unfold b9;omega,by unfold b9;omega,aa,λ a b=>?_⟩;have g:=h.arc a b;have i:=Br h b;exact⟨by unfold b9;omega,by unfold b9;omega,by unfold b9;omega⟩
structure cO.OK (m:cO):Prop where
 net:m.a=true->m.N.Right
 fin:∀ x∈m.f,b9 x
 flen:m.f.length<=100000
 slen:m.s.length<=100000
def cO.load(m:cO)(N:aR)(A:OA_)(c:Nat):cO:=⟨N,[],[],true,false,false,A,c,none,0,none,0⟩
def Mu(p:Nat)(m:cO)(l:LU_)(v:Value)(H':Heap):Prop:=
 ((cR l).2.2≠0/\v=td ((cR l).2.1,(cR l).2.2)/\H'=dq p m)\/
 ((cR l).2.2=0/\∃ (A:OA_) (c:Nat),v=td (0,0)/\H'=dq p (m.load (cR l).1 A c))
theorem Jw(V:LibV)(p:Nat)(m:cO)(l:LU_)(hl:l.length<=9999999):Fn 21 [.pointer (some ⟨p,0,none⟩),du l] (ay (dq p m)) (V.heap++dq p m) (Mu p m l):=by
 generalize hM:ay _=M
 refine aT Tryz.func21 λ w0=>?_;refine cW ?_;refine fh (uB V l hl) rfl ⟨⟨0,by simp[LibV.heap],rfl⟩,⟨1,by simp[LibV.heap],rfl⟩,⟨2,by simp[LibV.heap],rfl⟩,be⟩ ?_;rintro v H' ⟨A,c,rfl,rfl⟩;refine az ?_;refine dM λ b=>?_;refine nW ?_;refine ak rfl (λ a=>?_) (λ a=>ag ?_)
 ·refine ao ?_;exact aL [5,6,7,8] ⟨_,rfl,.inl ⟨a,rfl,rfl⟩⟩
 have a:(cR l).2.2=0:=Nn.1 a;refine gD ?_;refine bh (v:=cd (cR l).1 A c) 0 ?_;refine fv ?_;refine az ?_;refine dz 5 ?_;refine dw ?_;exact b6 3 1<|b6 2 1<|aL [7,3,0,1] ⟨_,rfl,.inr ⟨a,A,c,rfl,rfl⟩⟩
def eC(p:Nat)(m:cO)(ba bf bs:Nat):Heap:=[.seg p 0 m.cells,.seg ba 0 (arcs m.N.arcs),.seg bf 0 (aj m.f),.seg bs 0 (aj m.s)]
structure cO.At (m:cO) (ba bf bs:Nat):Prop where
 n:m.N.arcs≠[]->m.An=some ⟨ba,0,none⟩
 f:m.f≠[]->m.Af=some ⟨bf,0,none⟩
 s:m.s≠[]->m.As=some ⟨bs,0,none⟩
theorem Ft(m:cO)(c:m.a=true)(p:Nat)(sg:Int)(b:¬ (sg=112\/sg=116\/sg=115)):Fn 22 [.pointer (some ⟨p,0,none⟩),.int .u8 sg] [] [.seg p 0 m.cells] λ v H'=>v=td (0,1)/\H'=[]:=by
 refine aT Tryz.func22 λ w0=>?_;refine H4 ?_;rw[vi c];refine cS ?_;refine ak rfl (λ h=>absurd rfl h) (λ _=>ag ?_);refine cA ?_;refine jZ ?_;refine ao ?_;refine nj 15 rfl (λ h=>b (.inl h))<|fD ?_;refine nj 15 rfl (λ h=>b (.inr (.inl h)))<|fD ?_;refine nj 32 rfl (λ h=>b (.inr (.inr h)))<|fD ?_;exact nE
noncomputable def cO.checkZ(m:cO):Int:=if m.lack [false,true]≠0 then m.lack [false,true] else sT m.N m.f m.s
theorem K5{m:cO}{l:LB_}(h:m.lack l=0):m.a=true:=by
 cases b:m.a with
 |true=>rfl
 |false=>rw[Ju b] at h;exact absurd h ab
theorem EU(m:cO)(hm:m.OK)(p c d e:Nat)(a:m.At c d e):Fn 103 [.pointer (some ⟨p,0,none⟩)] [] (eC p m c d e) λ v H'=>v=.int .i64 m.checkZ/\H'=[]:=by
 have k:=hm.flen;refine aT Tryz.func103 λ w0=>?_;refine cW ?_;refine dp λ g=>?_;refine cH (fst:=[]) (cap:=[]) (kC m p [false,true] ab (aJ g 0) 2 2 g 0 aE rfl) rfl ⟨⟨1,_,by simp[eC],rfl,bn _ _ _,cC⟩,en 0 rfl,be⟩ ?_;refine cS ?_;refine ak rfl (λ b=>?_) (λ b=>ag ?_)
 ·refine ao ?_;refine aL [] ⟨_,rfl,?_,rfl⟩;unfold cO.checkZ;rw[if_pos b];rfl
 have b:m.lack [false,true]=0:=Nn.1 b;have j:=hm.net (K5 b);refine cA ?_;refine bK 14 (dS [0,1,2,3,4,5,6,7,8,9,10,11]++[(12,false)]++dS [13]) [1,2,3,4] aW ab rfl<|Ig ?_;refine a6 ?_;refine bc (v:=.slice m.As m.s.length m.cs) rfl (a7 (i:=5) 0 rfl rfl rfl) ?_;refine cz ?_;refine cH (EZ m.N j.fits' j m.An m.cn c 0 a.n m.f hm.fin aa m.Af m.cf d 0 a.f m.s hm.slen m.As m.cs e 0 a.s) rfl ⟨⟨2,_,by simp[eC],rfl,bn _ _ _,cC⟩,⟨3,_,by simp[eC],rfl,bn _ _ _,cC⟩,⟨4,_,by simp[eC],rfl,bn _ _ _,cC⟩,be⟩ ?_;refine bZ [1,2,3,4]<|iA ?_;refine aL [] ⟨_,rfl,?_,rfl⟩;unfold cO.checkZ;rw[if_neg (λ h=>h b)];rfl
structure Gr.Fits (g:Gr):Prop where
 left:b9 g.left
 right:b9 g.right
 len:g.edges.length<=1500
 edge:∀ e∈g.edges,b9 e.l/\b9 e.r
def KM(g:Gr)(e:np):Prop:=(1<=e.l/\e.l<=g.left)/\(1<=e.r/\e.r<=g.right)
open Classical in
noncomputable def ex(g:Gr):Int:=if ¬ ((1<=g.left/\g.left<=200)/\(1<=g.right/\g.right<=200)) then 3 else if ∀ e∈g.edges,KM g e then 0 else 4
theorem iL{g:Gr}(h:g.Fits):ex g=0↔g.Right:=by
 unfold ex
 constructor
 ·intro a;split at a
  ·exact absurd a ab
  ·rename_i b;have b:=Nn.1 b;split at a
   ·rename_i d;exact⟨b.1,b.2,h.len,d⟩
   ·exact absurd a ab
 ·intro c;rw[if_neg (λ k=>k ⟨c.left,c.right⟩),if_pos (show ∀ e∈g.edges,KM g e from c.edge)]
theorem zF{g:Gr}(h:¬ ((1<=g.left/\g.left<=200)/\(1<=g.right/\g.right<=200))):ex g=3:=by unfold ex;rw[if_pos h]
theorem ys{g:Gr}(h:(1<=g.left/\g.left<=200)/\(1<=g.right/\g.right<=200)){e:np}(he:e∈g.edges)(a:¬ KM g e):ex g=4:=by unfold ex;rw[if_neg (λ k=>k h),if_neg (λ k=>a (k e he))]
theorem yA{g:Gr}(h:(1<=g.left/\g.left<=200)/\(1<=g.right/\g.right<=200))(he:∀ e∈g.edges,KM g e):ex g=0:=by unfold ex;rw[if_neg (λ k=>k h),if_pos he]
theorem Be(g:Gr)(m:g.Fits)(A:OA_)(c b o:Nat)(n:g.edges≠[]->A=some ⟨b,o,none⟩):Fn 153 [xj g A c] [] [.seg b o (fL g.edges)] λ v H'=>v=.int .i64 (ex g)/\H'=[]:=by
 have u:=m.len;refine aT Tryz.func153 λ w0=>?_;refine bA ?_;refine dh (cs:=rE g A c) λ p=>?_;refine ik ?_;refine gj [(5,.bool (!dU ((1<=g.left/\g.left<=200)/\(1<=g.right/\g.right<=200)))),(1,ap p 0)] [blk p 178 (rE g A c),.seg b o (fL g.edges)] ?_ ?_
 ·refine aI ?_
  (first|refine ae [] (ad 0 rfl) rfl ?_|refine ae [] (ad 1 rfl) rfl ?_|refine ae [] (ad 2 rfl) rfl ?_|refine ae [] (ad 3 rfl) rfl ?_|refine ae [] (ad 4 rfl) rfl ?_|refine ae [] (ad 5 rfl) rfl ?_|refine ae [] (ad 6 rfl) rfl ?_|refine ae [] (ad 7 rfl) rfl ?_)
  refine cH (gH g.left 200) rfl be ?_;refine az ?_;by_cases a:1<=g.left/\g.left<=200
  ·refine aB 10 (v':=.bool false) rfl (congrArg Value.bool (by rw[aV a];rfl))<|bX [4] ?_
   (first|refine ae [4] (ad 0 rfl) rfl ?_|refine ae [4] (ad 1 rfl) rfl ?_|refine ae [4] (ad 2 rfl) rfl ?_|refine ae [4] (ad 3 rfl) rfl ?_|refine ae [4] (ad 4 rfl) rfl ?_|refine ae [4] (ad 5 rfl) rfl ?_|refine ae [4] (ad 6 rfl) rfl ?_|refine ae [4] (ad 7 rfl) rfl ?_)
   refine bj [4] (gH g.right 200) rfl rfl rfl rfl aW be aE<|jP ?_;refine bX [4] ?_;refine ah ⟨[0,1],⟨?_,rfl,be⟩,ab,rfl⟩;show some (Value.bool (!dU _))=_;rw[eB (q:=(1<=g.left/\g.left<=200)/\(1<=g.right/\g.right<=200)) ⟨λ h=>⟨a,h⟩,λ h=>h.2⟩]
  ·refine aB 10 (v':=.bool true) rfl (M8 Value.bool (by rw[aZ a];rfl))<|bX [4] ?_;refine ah ⟨[0,1],⟨?_,rfl,be⟩,ab,rfl⟩;show some (Value.bool true)=_;rw[aZ (λ h=>a h.1)];rfl
 by_cases f:(1<=g.left/\g.left<=200)/\(1<=g.right/\g.right<=200)
 case neg=>
  refine bB 5 (v':=.bool true) rfl (M8 Value.bool (by rw[aZ f];rfl))<|eP ?_;exact aL [] ⟨_,rfl,by rw[zF f];rfl,rfl⟩
 refine bB 5 (v':=.bool false) rfl (M8 Value.bool (by rw[aV f];rfl))<|bu rfl<|aI ?_
 (first|refine ae [] (ad 0 rfl) rfl ?_|refine ae [] (ad 1 rfl) rfl ?_|refine ae [] (ad 2 rfl) rfl ?_|refine ae [] (ad 3 rfl) rfl ?_|refine ae [] (ad 4 rfl) rfl ?_|refine ae [] (ad 5 rfl) rfl ?_|refine ae [] (ad 6 rfl) rfl ?_|refine ae [] (ad 7 rfl) rfl ?_)
 refine aN ?_;refine ak rfl (λ h=>absurd h aa) (λ _=>ag ?_);refine aI ?_
 (first|refine ae [] (ad 0 rfl) rfl ?_|refine ae [] (ad 1 rfl) rfl ?_|refine ae [] (ad 2 rfl) rfl ?_|refine ae [] (ad 3 rfl) rfl ?_|refine ae [] (ad 4 rfl) rfl ?_|refine ae [] (ad 5 rfl) rfl ?_|refine ae [] (ad 6 rfl) rfl ?_|refine ae [] (ad 7 rfl) rfl ?_)
 refine jb ?_
 refine bS (σ:=Nat) (λ k=>[(24,af k),(23,af g.edges.length),(22,.slice A g.edges.length c),(1,ap p 0)])
  (λ _=>[blk p 178 (rE g A c),.seg b o (fL g.edges)]) (λ k=>k<=g.edges.length/\∀ e∈g.edges.take k,KM g e) (λ k=>g.edges.length-k) 0 [0,1] a8 ab rfl ⟨Nk _,λ _ h=>absurd h ai⟩ ?_
 rintro k ⟨w,j⟩;refine ao ?_;refine am (ak rfl (λ hlt=>ag ?_) (λ s=>aO ?_))
 ·have hlt:k<g.edges.length:=by omega
  obtain rfl:=n (by intro t;rw[t] at hlt;simp at hlt);obtain⟨e,he⟩:∃ e,g.edges[k]?=some e:=⟨g.edges[k],an hlt⟩;refine am (au ?_);refine tY ?_;refine aG (a7 1 rfl rfl (kr he)) ?_;refine dM λ y=>?_;refine mU ?_;refine gj [(41,.bool (!dU (KM g e))),(24,af k),(23,af g.edges.length),(22,ax b o g.edges.length c),(1,ap p 0)] [blk p 178 (rE g (aJ b o) c),.seg b o (fL g.edges)] ?_ ?_
  ·refine aI ?_
   (first|refine ae [] (ad 0 rfl) rfl ?_|refine ae [] (ad 1 rfl) rfl ?_|refine ae [] (ad 2 rfl) rfl ?_|refine ae [] (ad 3 rfl) rfl ?_|refine ae [] (ad 4 rfl) rfl ?_|refine ae [] (ad 5 rfl) rfl ?_|refine ae [] (ad 6 rfl) rfl ?_|refine ae [] (ad 7 rfl) rfl ?_)
   refine az ?_
   (first|refine ae [] (ad 0 rfl) rfl ?_|refine ae [] (ad 1 rfl) rfl ?_|refine ae [] (ad 2 rfl) rfl ?_|refine ae [] (ad 3 rfl) rfl ?_|refine ae [] (ad 4 rfl) rfl ?_|refine ae [] (ad 5 rfl) rfl ?_|refine ae [] (ad 6 rfl) rfl ?_|refine ae [] (ad 7 rfl) rfl ?_)
   refine cH (gH e.l g.left) rfl be ?_;refine az ?_;by_cases a:1<=e.l/\e.l<=g.left
   ·refine aB 34 (v':=.bool false) rfl (congrArg Value.bool (by rw[aV a];rfl))<|bX [6] ?_
    (first|refine ae [6] (ad 0 rfl) rfl ?_|refine ae [6] (ad 1 rfl) rfl ?_|refine ae [6] (ad 2 rfl) rfl ?_|refine ae [6] (ad 3 rfl) rfl ?_|refine ae [6] (ad 4 rfl) rfl ?_|refine ae [6] (ad 5 rfl) rfl ?_|refine ae [6] (ad 6 rfl) rfl ?_|refine ae [6] (ad 7 rfl) rfl ?_)
    refine bX [6] ?_
    (first|refine ae [6] (ad 0 rfl) rfl ?_|refine ae [6] (ad 1 rfl) rfl ?_|refine ae [6] (ad 2 rfl) rfl ?_|refine ae [6] (ad 3 rfl) rfl ?_|refine ae [6] (ad 4 rfl) rfl ?_|refine ae [6] (ad 5 rfl) rfl ?_|refine ae [6] (ad 6 rfl) rfl ?_|refine ae [6] (ad 7 rfl) rfl ?_)
    refine bj [6] (gH e.r g.right) rfl rfl rfl rfl aW be aE<|jP ?_;refine bX [6] ?_;refine ah ⟨[1,2],⟨?_,rfl,rfl,rfl,rfl,be⟩,ab,rfl⟩;show some (Value.bool (!dU _))=_;rw[eB (q:=KM g e) ⟨λ h=>⟨a,h⟩,λ h=>h.2⟩]
   ·refine aB 34 (v':=.bool true) rfl (M8 Value.bool (by rw[aZ a];rfl))<|bX [6] ?_;refine ah ⟨[1,2],⟨?_,rfl,rfl,rfl,rfl,be⟩,ab,rfl⟩;show some (Value.bool true)=_;rw[aZ (λ h=>a h.1)];rfl
  by_cases i:KM g e
  case neg=>
   refine bB 41 (v':=.bool true) rfl (M8 Value.bool (by rw[aZ i];rfl))<|eP ?_;exact aL [] ⟨_,rfl,by rw[ys f (M9 he) i];rfl,rfl⟩
  refine bB 41 (v':=.bool false) rfl (M8 Value.bool (by rw[aV i];rfl))<|bu rfl (ag ?_);refine ao ?_;refine⟨k+1,[0,1],⟨?_,rfl,rfl,rfl,be⟩,ab,rfl,⟨aa,λ x d=>?_⟩,aa⟩
  ·refine fJ ?_;rw[cv aa];rfl
  ·rw[Nv,he] at d
   rcases Nm.1 d with d|d
   ·exact j x d
   ·simp at d;rw[d];exact i
 ·obtain rfl:k=g.edges.length:=by omega
  rw[NH] at j;refine ao ?_;exact aL [] ⟨_,rfl,by rw[yA f j];rfl,rfl⟩
end Go.Proofs.YtmcnpaelaieniaaGreatDoor
