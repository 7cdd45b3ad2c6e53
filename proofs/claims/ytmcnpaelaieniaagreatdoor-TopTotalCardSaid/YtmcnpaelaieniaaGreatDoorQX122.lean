import Derived.Test.YtmcnpaelaieniaaGreatDoorQX135
/- A part of the proof. -/
set_option linter.unusedVariables false
set_option linter.unusedSimpArgs false
set_option maxHeartbeats 8000000
namespace Go.Proofs.YtmcnpaelaieniaaGreatDoor
open Lib
theorem zj{n:Int}(h:0<=n):itoa n=decDigits n.toNat:=by
 unfold itoa;rw[if_neg aa]
theorem Jh{b:UInt8}(h:sd b=true):b≠10/\tj b=false:=by
 unfold sd at h;have a:=of_decide_eq_true h;refine⟨λ e=>?_,?_⟩
 ·subst e;simp at a
 ·unfold tj;have c:b.toNat≠32:=aa;have d:b.toNat≠9:=aa;have f:b.toNat≠13:=aa;simp[c,d,f]
theorem q8{n:Int}(h:0<=n):∀ b∈itoa n,b≠10/\tj b=false:=by
 intro b a;rw[zj h] at a;exact Jh (PM.1 (xM _) b a)
theorem xP{n:Int}(h:0<=n):itoa n≠[]:=by rw[zj h];exact x3 _
theorem DV{m:LU_}(h:∀ b∈m,b≠10)(t:LU_):aB (m++10::t)=m::aB t:=by
 rw[DX,jf,mK 10 m [] h];rfl
theorem su{m:LU_}(h:∀ b∈m,tj b=false)(a:m≠[]):bB m=[m]:=by
 unfold bB;have:=mN m [] [] h;rw[NN] at this;rw[this];simp[da,a]
theorem Js{k:Int}(h:0<=k):bB ([112,32,109,97,120,32,50,32]++itoa k)=[[112],[109,97,120],[50],itoa k]:=by
 rw[show ([112,32,109,97,120,32,50,32]:LU_)++itoa k=[112,32,109,97,120,32,50]++32::itoa k from rfl,l9 rfl,su (λ b a=>(q8 h b a).2) (xP h)];rfl
theorem I1{c:Int}(h:0<=c):bB ([97,32,49,32,50,32]++itoa c)=[[97],[49],[50],itoa c]:=by
 rw[show ([97,32,49,32,50,32]:LU_)++itoa c=[97,32,49,32,50]++32::itoa c from rfl,l9 rfl,su (λ b a=>(q8 h b a).2) (xP h)];rfl
def Li(k c:Int)(j:Nat):Rd:=⟨2,2,1,List.replicate j ⟨1,2,c⟩,k,j*c⟩
theorem KJ:dA [50]=(2,0):=ab
theorem MB:dA [49]=(1,0):=ab
theorem Rd.line_p(r:Rd)(w:Ws):r.line ([112]::w)=r.problem ([112]::w):=by simp[Rd.line]
theorem Rd.line_n(r:Rd)(w:Ws):r.line ([110]::w)=r.end_ ([110]::w):=by simp[Rd.line]
theorem Rd.line_a(r:Rd)(w:Ws):r.line ([97]::w)=r.arc ([97]::w):=by simp[Rd.line]
theorem uE(r:Rd)(i:Nat)(x:LU_)(ls:List (LU_)):fj r i (x::ls)=if (r.line (bB x)).2≠0 then (r,i+1,(r.line (bB x)).2) else fj (r.line (bB x)).1 (i+1) ls:=rfl
theorem MS{k:Int}(h:0<=k/\k<=2000):tC.line (bB ([112,32,109,97,120,32,50,32]++itoa k))=(⟨2,0,0,[],k,0⟩,0):=by
 rw[Js h.1]
 have a:aJ [[50],itoa k]=([2,k],0):=by
  unfold aJ;unfold aJ;unfold aJ;rw[tQ k aa,KJ];rfl
 rw[Rd.line_p];unfold Rd.problem;rw[if_neg (by simp[tC]),show List.drop 2 [[112],[109,97,120],[50],itoa k]=[[50],itoa k] from rfl,a];rw[if_neg ai,if_neg eK];rfl
theorem MO{k c:Int}(a:0<=c/\c<=4611686018427387903){j:Nat}(f:(j:Int)<k):(Li k c j).line (bB ([97,32,49,32,50,32]++itoa c))=if 4611686018427387903<j*c+c then (Li k c j,7) else (Li k c (j+1),0):=by
 rw[I1 a.1]
 have b:aJ [[49],[50],itoa c]=([1,2,c],0):=by
  unfold aJ;unfold aJ;unfold aJ;unfold aJ;rw[tQ c aa,KJ,MB];rfl
 rw[Rd.line_a];unfold Rd.arc;rw[if_neg (by simp[Li]),show List.drop 1 [[97],[49],[50],itoa c]=[[49],[50],itoa c] from rfl,b];rw[if_neg ai,if_neg (by simp[Li]),if_neg eK,if_neg (by simp[Li];omega)];show (if 4611686018427387903<(j:Int)*c+c then _ else _)=_;split
 ·rfl
 ·refine Prod.ext ?_ rfl;unfold Li;have e:(List.replicate j (ej.mk 1 2 c))++[⟨1,2,c⟩]=List.replicate (j+1) ⟨1,2,c⟩:=by rw[List.replicate_succ']
  have d:(j:Int)*c+c=((j+1:Nat):Int)*c:=by rw[Pu,Int.add_mul];simp
  show Rd.mk 2 2 1 (List.replicate j (ej.mk 1 2 c)++[⟨1,2,c⟩]) k ((j:Int)*c+c)=_;rw[e,d]
open Go.RowKit
open Lib
def rY(a:ej):LU_:=gD [97] [a.fr,a.to,a.cap]++[10]
def kr(N:aV):LU_:=(gD [112,32,109,97,120] [N.nodes,N.arcs.length]++[10])++(((gD [110] [N.src]++[32,115,10])++gD [110] [N.snk])++[32,116,10])
def iu(N:aV):LU_:=kr N++(N.arcs.map rY).flatten
noncomputable def sn(N:aV):Value:=.tuple #[dk (if de N=0 then iu N else []),.int .i64 (if de N=0 then 0 else 1)]
theorem yW(V:LibV)(N:aV)(t:N.Fits)(A:OA_)(c b o:Nat)(O:N.arcs≠[]->A=some ⟨b,o,none⟩):Fn 29 [bZ N A c] [] ([.seg b o (arcs N.arcs)]++V.heap) λ v H'=>v=sn N/\H'=[]:=by
 refine KT Tryz.func29 rfl rfl λ w0=>bu ?_;refine Bi (cs:=bU N A c) rfl rfl rfl (λ _=>rfl) λ y=>db [] rfl<|am<|bu ?_;refine ae [] (v:=bZ N A c) (ad 0 rfl) rfl<|tU [] (ox N t A c b o O) rfl (by kernel_rfl) ⟨⟨1,_,by simp,rfl,bq _ _ _,cC⟩,an⟩ (λ _=>rfl)<|kD ?_;refine db [] rfl<|ak rfl (λ D=>?_) (λ D=>ag ?_)
 ·refine bu ?_;refine db [] rfl<|i5 [] (by decide) rfl (bN ⟨_,rfl,?_,rfl⟩);unfold sn;rw[if_neg D,if_neg D];rfl
 have q:de N=0:=No.1 D;have P:=iB q;have U:=P.nodes;have Y:=P.len
 have d:∀ n:Int,(n=N.nodes\/n=N.arcs.length\/n=N.src\/n=N.snk)->b7 n:=by
  rintro n (rfl|rfl|rfl|rfl)
  ·exact t.nodes
  ·unfold b7;omega
  ·exact t.src
  ·exact t.snk
 refine bu ?_;refine nD rfl rfl rfl (λ _=>rfl) λ j=>kp 5 1<|cD (K:=mi j (.pointer none) none 0 []++[blk y 33 (bU N A c),.seg b o (arcs N.arcs)]++V.heap) (ay.picks [1,0,2,3,4,5,6] (by decide) rfl)<|db [] rfl<|bu ?_;refine fV [] rfl<|ae [] (a8 (i:=0) (v:=af N.nodes) 2 rfl rfl rfl rfl) rfl<|fV [] rfl<|ae [] (a8 (i:=3) (v:=.slice A N.arcs.length c) 2 rfl rfl rfl rfl) rfl<|fV [] rfl<|b8 rfl rfl rfl rfl rfl rfl rfl (λ _=>rfl) λ g=>?_;refine tU [] (kn V [112,32,109,97,120] (by decide) [N.nodes,N.arcs.length] (λ n e=>d n (by simp at e;omega)) (by simp) _ 2 _ g 0 (λ _=>rfl) rfl) rfl (by kernel_rfl) ⟨⟨0,_,by simp,rfl,aS _ _ _ (0,0),.inr rfl⟩,⟨5,by simp,rfl⟩,⟨6,by simp,rfl⟩,⟨7,by simp,rfl⟩,an⟩ (λ _=>rfl)<|kD ?_;have F:=fi [112,32,109,97,120] [N.nodes,N.arcs.length] (λ n e=>d n (by simp at e;omega));simp only[Nh,NC] at F;refine ae [] (iW (m:=[10]) rfl rfl rfl (by simp;omega)) rfl<|bK (fst:=[]) (cap:=[]) [] (tI j (.pointer none) (.inl rfl) none 0 [] (gD [112,32,109,97,120] [N.nodes,N.arcs.length]++[10]) (by simp;omega)) rfl rfl rfl rfl (by kernel_rfl) (K:=[blk y 33 (bU N A c),.seg b o (arcs N.arcs)]++V.heap) (ay.picks [1,2,3,4,5,6,7] (by decide) rfl) an (λ _=>rfl)<|?_;rintro v H' ⟨A1,Z,rfl⟩;refine dw ?_;refine db [] rfl<|iv (σ:=OA_×Nat) (λ s=>[(1,ap y 0),(4,ap j 0)]) (λ s=>mi j (ap j 0) s.1 s.2 (kr N)++[blk y 33 (bU N A c),.seg b o (arcs N.arcs)]++V.heap) ?_ ?_
 ·refine ly (Sf:=[blk y 33 (bU N A c)])<|jU [0,1,5,6] (by decide+kernel) [2] (by decide) rfl<|q6 ?_;refine cM ?_;have z:=fi [110] [N.src] (fun n e=>d n (by simp at e;omega));have B:=fi [110] [N.snk] (fun n e=>d n (by simp at e;omega));simp only[List.length_cons,List.length_nil] at z B
  (repeat' (first|exact an|refine av 2 [7] (by decide+kernel) (by decide) ?_|refine av 2 [] (by decide+kernel) (by decide) ?_|refine av 3 [7] (by decide+kernel) (by decide) ?_|refine av 3 [] (by decide+kernel) (by decide) ?_|refine av 4 [7] (by decide+kernel) (by decide) ?_|refine av 4 [8] (by decide+kernel) (by decide) ?_|refine av 4 [] (by decide+kernel) (by decide) ?_|refine av 7 [] (by decide+kernel) (by decide) ?_|refine av 8 [] (by decide+kernel) (by decide) ?_|refine av 9 [] (by decide+kernel) (by decide) ?_|refine av 10 [] (by decide+kernel) (by decide) ?_|refine av 11 [] (by decide+kernel) (by decide) ?_|refine⟨⟨_,rfl,?_⟩,?_⟩|(refine b8 rfl rfl rfl rfl rfl rfl rfl (λ _=>rfl) λ g3=>?_;refine cD (ay.picks [1,2,3,4,5,6,7,8,0] (by decide) rfl) ?_;refine ah ⟨⟨[2],by decide,rfl⟩,?_⟩)|(refine b8 rfl rfl rfl rfl rfl rfl rfl (λ _=>rfl) λ g2=>?_;refine cD (ay.picks [1,2,3,4,5,6,7,0] (by decide) rfl) ?_;refine ah ⟨⟨[2],by decide,rfl⟩,?_⟩)|(refine bA [] (kn V [110] (by decide) [N.src] (λ n e=>d n (by simp at e;omega)) (by simp) _ 1 _ _ 0 (λ _=>rfl) rfl) rfl rfl rfl rfl (by kernel_rfl) ⟨⟨7,_,by simp,rfl,aS _ _ _ (0,0),.inr rfl⟩,⟨4,by simp,rfl⟩,⟨5,by simp,rfl⟩,⟨6,by simp,rfl⟩,an⟩ (λ _=>rfl) ?_;rintro v H' ⟨rfl,rfl⟩;refine⟨rfl,ah ⟨⟨[2],by decide,rfl⟩,?_⟩⟩)|(refine bA [] (kn V [110] (by decide) [N.src] (λ n e=>d n (by simp at e;omega)) (by simp) _ 1 _ _ 0 (λ _=>rfl) rfl) rfl rfl rfl rfl (by kernel_rfl) ⟨⟨8,_,by simp,rfl,aS _ _ _ (0,0),.inr rfl⟩,⟨4,by simp,rfl⟩,⟨5,by simp,rfl⟩,⟨6,by simp,rfl⟩,an⟩ (λ _=>rfl) ?_;rintro v H' ⟨rfl,rfl⟩;refine⟨rfl,ah ⟨⟨[2],by decide,rfl⟩,?_⟩⟩)|(refine bA [] (kn V [110] (by decide) [N.snk] (λ n e=>d n (by simp at e;omega)) (by simp) _ 1 _ _ 0 (λ _=>rfl) rfl) rfl rfl rfl rfl (by kernel_rfl) ⟨⟨7,_,by simp,rfl,aS _ _ _ (0,0),.inr rfl⟩,⟨4,by simp,rfl⟩,⟨5,by simp,rfl⟩,⟨6,by simp,rfl⟩,an⟩ (λ _=>rfl) ?_;rintro v H' ⟨rfl,rfl⟩;refine⟨rfl,ah ⟨⟨[2],by decide,rfl⟩,?_⟩⟩)|(refine bA [] (kn V [110] (by decide) [N.snk] (λ n e=>d n (by simp at e;omega)) (by simp) _ 1 _ _ 0 (λ _=>rfl) rfl) rfl rfl rfl rfl (by kernel_rfl) ⟨⟨8,_,by simp,rfl,aS _ _ _ (0,0),.inr rfl⟩,⟨4,by simp,rfl⟩,⟨5,by simp,rfl⟩,⟨6,by simp,rfl⟩,an⟩ (λ _=>rfl) ?_;rintro v H' ⟨rfl,rfl⟩;refine⟨rfl,ah ⟨⟨[2],by decide,rfl⟩,?_⟩⟩)|(refine ae [] (iW (m:=[32,115,10]) rfl rfl rfl (by simp;omega)) rfl ?_;refine ah ⟨⟨[2],by decide,rfl⟩,?_⟩)|(refine ae [] (iW (m:=[32,116,10]) rfl rfl rfl (by simp;omega)) rfl ?_;refine ah ⟨⟨[2],by decide,rfl⟩,?_⟩)|(refine ae [] (iW rfl rfl rfl (by simp;omega)) rfl ?_;refine ah ⟨⟨[2],by decide,rfl⟩,?_⟩)|(refine bK (fst:=[]) (cap:=[]) [] (tI j (ap j 0) (.inr rfl) A1 Z ([]++(gD [112,32,109,97,120] [N.nodes,N.arcs.length]++[10])) (((gD [110] [N.src]++[32,115,10])++gD [110] [N.snk])++[32,116,10]) (by simp;omega)) rfl rfl rfl rfl (by kernel_rfl) ay.refl an (λ _=>rfl) ?_;rintro v H' ⟨Q,c2,rfl⟩;refine⟨rfl,ah ⟨⟨[2],by decide,rfl⟩,?_⟩⟩;exact fd (by decide+kernel) ⟨(_,_),⟨rfl,rfl,an⟩,ay.picks [0,1,2,3,4,5,6] (by decide) rfl⟩)))
 rintro⟨Q,c2⟩
 have h3:(kr N).length<=400:=by
  have z:=fi [110] [N.src] (λ n e=>d n (by simp at e;omega));have B:=fi [110] [N.snk] (λ n e=>d n (by simp at e;omega));unfold kr;simp only[Nj,Nh,NC] at*;omega
 have p:∀ a∈N.arcs,(rY a).length<=70:=λ a u=>by
  have E:=t.arc a u;have:=fi [97] [a.fr,a.to,a.cap] (λ n e=>by simp at e;rcases e with rfl|rfl|rfl;exact E.1;exact E.2.1;exact E.2.2);unfold rY;simp only[Nj,Nh,NC] at*;omega
 have H:∀ l:List ej,(∀ a∈l,a∈N.arcs)->((l.map rY).flatten).length<=l.length*70:=by
  intro l
  induction l with
  |nil=>intro _;simp
  |cons a l ih=>
   intro h;have E:=p a (h a (by simp));have h2:=ih λ x I=>h x (by simp[I]);simp only[Nv,OA,Nj,Nh];omega
 simp only;refine bu ?_;refine fV [] rfl<|ae [] (a8 (i:=3) (v:=.slice A N.arcs.length c) 2 rfl rfl rfl rfl) rfl<|db [] rfl<|gK ?_
 refine bP (σ:=Nat×OA_×Nat) (λ s=>[(34,af s.1),(33,af N.arcs.length),(32,.slice A N.arcs.length c),(4,ap j 0)])
  (λ s=>mi j (ap j 0) s.2.1 s.2.2 (kr N++((N.arcs.take s.1).map rY).flatten)++[.seg b o (arcs N.arcs)]++V.heap)
  (λ s=>s.1<=N.arcs.length) (λ s=>N.arcs.length-s.1) (0,Q,c2) [0,1,3,4,5,6] ⟨rfl,rfl,rfl,rfl,an⟩ (by decide) (by simp;rfl) (Nl _) ?_
 rintro⟨k,R,c3⟩ hk;simp only at hk ⊢;refine bu ?_;refine db [] rfl<|am (ak rfl (λ hy=>ag ?_) (λ hv=>aO ?_))
 ·have f:k<N.arcs.length:=by omega
  obtain⟨a,u⟩:∃ a,N.arcs[k]?=some a:=⟨N.arcs[k],be f⟩;obtain rfl:=O (by intro h;rw[h] at f;simp at f);have r:=t.arc a (Nb u);have C:=p a (Nb u);have L:=H (N.arcs.take k) (λ x I=>Oi I);rw[NE] at L;refine am (aq ?_);refine am<|bu ?_;refine fV [] rfl<|ae [] (jc rfl f) rfl<|ae [] (aZ 2 rfl rfl (gU u)) rfl<|nD rfl rfl rfl (λ _=>rfl) λ p6=>fG 0 rfl [] rfl<|db [] rfl<|?_;refine bu ?_;refine fV [] rfl<|ae [] (a8 (i:=0) (v:=af a.fr) 0 rfl rfl rfl rfl) rfl<|fV [] rfl<|ae [] (a8 (i:=1) (v:=af a.to) 0 rfl rfl rfl rfl) rfl<|fV [] rfl<|ae [] (a8 (i:=2) (v:=af a.cap) 0 rfl rfl rfl rfl) rfl<|?_;refine b8 rfl rfl rfl rfl rfl rfl rfl (λ _=>rfl) λ g=>tU [] (kn V [97] (by decide) [a.fr,a.to,a.cap] (λ n e=>by simp at e;rcases e with rfl|rfl|rfl;exact r.1;exact r.2.1;exact r.2.2) (by simp) _ 3 _ g 0 (λ _=>rfl) rfl) rfl (by kernel_rfl) ⟨⟨0,_,by simp,rfl,aS _ _ _ (0,0),.inr rfl⟩,⟨5,by simp,rfl⟩,⟨6,by simp,rfl⟩,⟨7,by simp,rfl⟩,an⟩ (λ _=>rfl)<|kD ?_;have S:(gD [97] [a.fr,a.to,a.cap]).length<=69:=by unfold rY at C;simp at C;omega
  refine ae [] (iW (m:=[10]) rfl rfl rfl (by simp;omega)) rfl<|bK (fst:=[]) (cap:=[]) [] (tI j _ (.inr rfl) R c3 (kr N++((N.arcs.take k).map rY).flatten) (rY a) (by rw[Nj];omega)) rfl rfl rfl rfl (by kernel_rfl) (K:=[.seg b o (arcs N.arcs)]++V.heap) (ay.picks [2,3,4,5,6,7] (by decide) rfl) an (λ _=>rfl)<|?_;rintro v H' ⟨A4,c4,rfl⟩;refine dw ?_;refine db [] rfl<|bu ?_;refine db [] rfl ?_;have M:kr N++((N.arcs.take (k+1)).map rY).flatten=kr N++((N.arcs.take k).map rY).flatten++rY a:=by rw[Nu,u];simp
  refine⟨(k+1,A4,c4),[0,1,2,3,4,5],⟨?_,rfl,rfl,rfl,an⟩,by decide,?_,by simp only;omega,by simp only;omega⟩
  ·refine fy ?_;rw[cp (by omega)];rfl
  ·simp only[M];rfl
 obtain rfl:k=N.arcs.length:=by omega
 rw[NH];refine bu ?_;refine fV [] rfl<|Ch (X:=⟨w0,[],_⟩) [] rfl (λ w hw=>Ho rfl j _ (.inr rfl) R c3 (iu N) hw) rfl rfl rfl rfl (by kernel_rfl) rfl<|db [] rfl<|bN ⟨_,rfl,?_,rfl⟩;unfold sn;rw[if_pos q,if_pos q];rfl
open Lib
def kN(r:Rd):List Ws->Option Rd
 |[]=>some r
 |w::ws=>if (r.line w).2≠0 then none else kN (r.line w).1 ws
theorem vS:∀ (ls:List (LU_)) (r:Rd) (i:Nat) (a:Rd),kN r (ls.map bB)=some a->fj r i ls=(a,0,0)
 |[],r,i,a,h=>by simp only[kN,Og,Nc] at h;subst h;rfl
 |x::ls,r,i,a,h=>by
  rw[Nv,kN] at h;rw[uE];split at h
  ·cases h
  ·rename_i b;rw[if_neg b];exact vS ls _ _ a h
def og(w:Ws):Bool:=match w with
 |[]=>true
 |x::_=>x==[99]
theorem EW{w:Ws}(h:og w=true)(r:Rd):r.line w=(r,0):=by
 unfold og at h;unfold Rd.line;split
 ·rfl
 ·rename_i x l;simp only[beq_iff_eq] at h;rw[if_pos h]
theorem sc:∀ (ws:List Ws) (r:Rd),kN r ws=kN r (ws.filter λ w=>!og w)
 |[],r=>rfl
 |w::ws,r=>by
  rw[kN]
  cases h:og w with
  |true=>
   rw[EW h,if_neg ai,List.filter_cons_of_neg (by simp[h])];exact sc ws r
  |false=>
   rw[O5 (by simp[h]),kN];split
   ·rfl
   ·exact sc ws _
def zT:List ej->List Ws->Prop
 |[],[]=>True
 |a::l,w::ws=>(∃ x y z,w=[[97],x,y,z]/\dA x=(a.fr,0)/\dA y=(a.to,0)/\dA z=(a.cap,0))/\zT l ws
 |_,_=>False
def IX(N:aV)(W:List Ws):Prop:=∃ a b c d ws,W=[[112],[109,97,120],a,b]::[[110],c,[115]]::[[110],d,[116]]::ws/\dA a=(N.nodes,0)/\dA b=((N.arcs.length:Int),0)/\dA c=(N.src,0)/\dA d=(N.snk,0)/\zT N.arcs ws
theorem HZ{x:LU_}{n:Int}(h:dA x=(n,0)):aJ [x]=([n],0):=by
 unfold aJ;unfold aJ;rw[h];rfl
theorem Kv{x y:LU_}{n m:Int}(h:dA x=(n,0))(k:dA y=(m,0)):aJ [x,y]=([n,m],0):=by
 unfold aJ;rw[h,HZ k];rfl
theorem Mx{x y z:LU_}{n m p:Int}(h:dA x=(n,0))(k:dA y=(m,0))(j:dA z=(p,0)):aJ [x,y,z]=([n,m,p],0):=by
 unfold aJ;rw[h,Kv k j];rfl
theorem vZ:∀ (l:List ej) (ws:List Ws) (r:Rd),zT l ws->r.src≠0->r.snk≠0->(∀ a∈l,(1<=a.fr/\a.fr<=r.nodes)/\(1<=a.to/\a.to<=r.nodes)/\0<=a.cap)->(r.arcs.length:Int)+l.length<=r.most->
 0<=r.sum->r.sum+(l.map (·.cap)).sum<=4611686018427387903->kN r ws=some { r with arcs:=r.arcs++l,sum:=r.sum+(l.map (·.cap)).sum }
 |[],[],r,_,_,_,_,_,_,_=>by simp[kN]
 |[],_::_,_,h,_,_,_,_,_,_=>h.elim
 |_::_,[],_,h,_,_,_,_,_,_=>h.elim
 |a::l,w::ws,r,⟨⟨x,y,z,hw,i,j,k⟩,h⟩,f,g,d,m,s,n=>by
  subst hw;have t:=d a ai
  have o:0<=(l.map (·.cap)).sum:=wX λ c p=>by
   obtain⟨b,e,rfl⟩:=NF.1 p;exact (d b (by simp[e])).2.2
  rw[Nv,ND] at n;rw[Nh] at m
  have hl:r.line [[97],x,y,z]=({ r with sum:=r.sum+a.cap,arcs:=r.arcs++[a] },0):=by
   rw[Rd.line_a];unfold Rd.arc;rw[if_neg (by simp[f,g]),show List.drop 1 [[97],x,y,z]=[x,y,z] from rfl,Mx i j k];rw[if_neg ai,if_neg eK,if_neg eK,if_neg aa,if_neg eK];rfl
  rw[kN,hl,if_neg ai];have q:=vZ l ws { r with sum:=r.sum+a.cap,arcs:=r.arcs++[a] } h f g (λ b e=>d b (by simp[e])) (by simp only[Nj,Nh,NC];omega) (by simp only;omega) (by simp only;omega);rw[q];simp[Int.add_assoc]
theorem FB{N:aV}(e:N.Right){W:List Ws}(h:IX N W):∃ sm,kN tC W=some ⟨N.nodes,N.src,N.snk,N.arcs,N.arcs.length,sm⟩:=by
 obtain⟨a,b,c,d,ws,rfl,f,g,i,j,hw⟩:=h;have k:=e.nodes;have q:=e.src;have r:=e.snk;have l:=e.len;have m:=e.diff
 have n:tC.line [[112],[109,97,120],a,b]=(⟨N.nodes,0,0,[],N.arcs.length,0⟩,0):=by
  rw[Rd.line_p];unfold Rd.problem;rw[if_neg (by simp[tC]),show List.drop 2 [[112],[109,97,120],a,b]=[a,b] from rfl,Kv f g,if_neg ai,if_neg eK];rfl
 have o:Rd.line ⟨N.nodes,0,0,[],N.arcs.length,0⟩ [[110],c,[115]]=(⟨N.nodes,N.src,0,[],N.arcs.length,0⟩,0):=by
  rw[Rd.line_n];unfold Rd.end_;rw[if_neg (by simp<;>omega),if_pos (by rfl),if_neg ai,show [[110],c,[115]].getD 1 []=c from rfl,HZ i,if_neg ai,if_neg eK,if_neg eK];rfl
 have p:Rd.line ⟨N.nodes,N.src,0,[],N.arcs.length,0⟩ [[110],d,[116]]=(⟨N.nodes,N.src,N.snk,[],N.arcs.length,0⟩,0):=by
  rw[Rd.line_n];unfold Rd.end_;rw[if_neg (by simp<;>omega),if_neg ai,if_pos (by rfl),if_neg ai,show [[110],d,[116]].getD 1 []=d from rfl,HZ j,if_neg ai,if_neg eK,if_neg eK];rfl
 refine⟨0+(N.arcs.map (·.cap)).sum,?_⟩;rw[kN,n,if_neg ai,kN,o,if_neg ai,kN,p,if_neg ai];rw[vZ N.arcs ws ⟨N.nodes,N.src,N.snk,[],N.arcs.length,0⟩ hw (by simp only;omega) (by simp only;omega) e.arc ai ai (by simpa using e.sum)];simp
theorem Fc{N:aV}(a:N.Right){s:LU_}(h:IX N (((aB s).map bB).filter λ w=>!og w)):cN s=(N,0,0):=by
 obtain⟨sm,b⟩:=FB a h;rw[<- sc] at b;have c:=vS _ _ 0 _ b;have d:=a.src;have e:=a.snk;unfold cN;rw[c,if_neg ai,if_neg eK,if_neg ai]
open Lib
theorem HF(f:LU_)(n:Int)(l:LI_):gD f (n::l)=gD (f++32::itoa n) l:=by
 rw[qc,qc];simp
theorem qH(f:LU_)(l:LI_)(h:∀ n∈l,0<=n):bB (gD f l)=bB f++l.map itoa:=by
 induction l generalizing f with
 |nil=>simp[qc]
 |cons n l c=>
  have a:=h n ai;rw[HF,c _ λ x d=>h x (by simp[d]),l9 rfl,su (λ b e=>(q8 a b e).2) (xP a)];simp
theorem xu{f:LU_}{l:LI_}(d:∀ b∈f,b≠10)(h:∀ n∈l,0<=n):∀ b∈gD f l,b≠10:=by
 intro b c;rw[qc] at c
 rcases Np.1 c with c|c
 ·exact d b c
 ·obtain⟨x,e,a⟩:=List.mem_flatten.1 c;obtain⟨n,g,rfl⟩:=NF.1 e
  rcases Nn.1 a with rfl|a
  ·decide
  ·exact (q8 (h n g) b a).1
def BD(N:aV):List (LU_):=gD [112,32,109,97,120] [N.nodes,N.arcs.length]::(gD [110] [N.src]++[32,115])::(gD [110] [N.snk]++[32,116])::N.arcs.map λ a=>gD [97] [a.fr,a.to,a.cap]
theorem Gj{N:aV}(h:N.Right):∀ x∈BD N,∀ b∈x,b≠10:=by
 have j:=h.nodes;have l:=h.src;have m:=h.snk;intro x i;unfold BD at i;simp only[Nn,NF] at i;have d:∀ b∈([110]:LU_),b≠10:=ab;have f:∀ b∈([32,115]:LU_),b≠10:=ab;have g:∀ b∈([32,116]:LU_),b≠10:=ab
 rcases i with rfl|rfl|rfl|⟨a,k,rfl⟩
 ·exact xu ab (λ n e=>by simp at e;omega)
 ·intro b c
  rcases Np.1 c with c|c
  ·exact xu d (λ n e=>by simp at e;omega) b c
  ·exact f b c
 ·intro b c
  rcases Np.1 c with c|c
  ·exact xu d (λ n e=>by simp at e;omega) b c
  ·exact g b c
 ·have:=h.arc a k;exact xu ab (λ n e=>by simp at e;omega)
theorem zw:∀ (ls:List (LU_)),(∀ x∈ls,∀ b∈x,b≠10)->aB ((ls.map λ x=>x++[10]).flatten)=ls
 |[],_=>rfl
 |x::ls,h=>by
  rw[Nv,OA,NQ];show aB (x++10::_)=_;rw[DV (h x ai)];exact Na (x::·) (zw ls λ y a=>h y (by simp[a]))
theorem Eo(N:aV):iu N=((BD N).map λ x=>x++[10]).flatten:=by
 unfold iu kr BD;simp only[Nv,OA,OG,NQ]
 congr 1
theorem yc{N:aV}(a:N.Right):aB (iu N)=BD N:=by rw[Eo,zw _ (Gj a)]
theorem Cd:∀ {l:LI_} {x:Int},(∀ y∈l,0<=y)->x∈l->x<=l.sum
 |[],_,_,h=>absurd h Nt
 |y::l,x,h,a=>by
  have c:=wX (l:=l) λ z b=>h z (by simp[b]);have d:=h y ai;rw[ND]
  rcases Nn.1 a with rfl|a
  ·omega
  ·have:=Cd (λ z b=>h z (by simp[b])) a;omega
theorem Bb{N:aV}(c:N.Right){a:ej}(d:a∈N.arcs):a.cap<=4611686018427387903:=by
 have:=Cd (l:=N.arcs.map (·.cap)) (λ y e=>by
  obtain⟨b,f,rfl⟩:=NF.1 e;exact (c.arc b f).2.2) (NF.2 ⟨a,d,rfl⟩)
 have:=c.sum;omega
theorem pM{n:Int}(h:0<=n/\n<=4611686018427387903):dA (itoa n)=(n,0):=tQ n aa
theorem uf{N:aV}(c:N.Right):IX N ((BD N).map bB):=by
 have f:=c.nodes;have k:=c.src;have m:=c.snk;have g:=c.len;refine⟨itoa N.nodes,itoa N.arcs.length,itoa N.src,itoa N.snk,N.arcs.map λ a=>[[97],itoa a.fr,itoa a.to,itoa a.cap],?_,pM aa,pM aa,pM aa,pM aa,?_⟩
 ·unfold BD;simp only[List.map_cons,List.map_map];rw[qH _ _ (fun n d=>by simp at d;omega),show gD [110] [N.src]++[32,115]=gD [110] [N.src]++32::[115] from rfl,l9 rfl,qH _ _ (fun n d=>by simp at d;omega),show gD [110] [N.snk]++[32,116]=gD [110] [N.snk]++32::[116] from rfl,l9 rfl,qH _ _ (fun n d=>by simp at d;omega)]
  congr 1
  congr 1
  congr 1
  refine Ou λ a e=>?_;have:=c.arc a e;show bB (gD [97] [a.fr,a.to,a.cap])=_;rw[qH _ _ (λ n d=>by simp at d;omega)];rfl
 ·have key:∀ l:List ej,(∀ a∈l,a∈N.arcs)->zT l (l.map λ a=>[[97],itoa a.fr,itoa a.to,itoa a.cap]):=by
   intro l
   induction l with
   |nil=>intro _;trivial
   |cons a l i=>
    intro h;have:=c.arc a (h a ai);have:=Bb c (h a ai);exact⟨⟨_,_,_,rfl,pM aa,pM aa,pM aa⟩,i λ b j=>h b (by simp[j])⟩
  exact key N.arcs λ a e=>e
theorem He{N:aV}{W:List Ws}(h:IX N W):(W.filter λ w=>!og w)=W:=by
 obtain⟨a,b,c,d,ws,rfl,_,_,_,_,hw⟩:=h
 have key:∀ (l:List ej) (ws:List Ws),zT l ws->(ws.filter λ w=>!og w)=ws:=by
  intro l
  induction l with
  |nil=>intro ws h;cases ws with
   |nil=>rfl
   |cons _ _=>exact h.elim
  |cons a l e=>intro ws h;cases ws with
   |nil=>exact h.elim
   |cons w ws=>
    obtain⟨⟨x,y,z,rfl,_⟩,f⟩:=h;rw[O5 (by simp[og]),e ws f]
 rw[O5 (by simp[og]),O5 (by simp[og]),O5 (by simp[og]),key _ _ hw]
theorem nI{N:aV}(a:N.Right):cN (iu N)=(N,0,0):=by
 refine Fc a ?_;rw[yc a,He (uf a)];exact uf a
open Lib
theorem vP:∀ (ls:List (LU_)) (r:Rd) (i:Nat),(fj r i ls).2.2≠0->i+1<=(fj r i ls).2.1/\(fj r i ls).2.1<=i+ls.length
 |[],r,i,h=>absurd rfl h
 |x::ls,r,i,h=>by
  rw[uE] at h ⊢;rw[Nh];split
  ·simp only;omega
  ·rename_i a;rw[if_neg a] at h;have:=vP ls _ _ h;omega
theorem sF{s:LU_}(h:(cN s).2.2≠0):(cN s).1=nh/\1<=(cN s).2.1/\(cN s).2.1<=(aB s).length+1:=by
 unfold cN at h ⊢;split
 ·rename_i a;have:=vP _ _ _ a;exact⟨rfl,by simp only;omega,by simp only;omega⟩
 ·rename_i a;rw[if_neg a] at h;split
  ·exact⟨rfl,ai,ai⟩
  ·rename_i b;rw[if_neg b] at h;split
   ·exact⟨rfl,ai,ai⟩
   ·rename_i c;rw[if_neg c] at h;exact absurd rfl h
theorem aV.Right.fits4{N:aV}(h:N.Right):N.Fits:=by
 have c:=h.nodes;have d:=h.src;have e:=h.snk;have f:=h.len;refine⟨by unfold b7;omega,by unfold b7;omega,by unfold b7;omega,aa,λ a b=>?_⟩;have g:=h.arc a b;have i:=Bb h b;exact⟨by unfold b7;omega,by unfold b7;omega,by unfold b7;omega⟩
structure cO.OK (m:cO):Prop where
 net:m.a=true->m.N.Right
 fin:∀ x∈m.f,b7 x
 flen:m.f.length<=100000
 slen:m.s.length<=100000
def cO.load(m:cO)(N:aV)(A:OA_)(c:Nat):cO:=⟨N,[],[],true,false,false,A,c,none,0,none,0⟩
def MH(p:Nat)(m:cO)(l:LU_)(v:Value)(H':Heap):Prop:=
 ((cN l).2.2≠0/\v=tg ((cN l).2.1,(cN l).2.2)/\H'=dq p m)\/
 ((cN l).2.2=0/\∃ (A:OA_) (c:Nat),v=tg (0,0)/\H'=dq p (m.load (cN l).1 A c))
theorem JC(V:LibV)(p:Nat)(m:cO)(l:LU_)(hl:l.length<=9999999):Fn 21 [.pointer (some ⟨p,0,none⟩),dk l] (aC (dq p m)) (V.heap++dq p m) (MH p m l):=by
 generalize hM:aC _=M
 refine aT Tryz.func21 λ w0=>?_;refine c9 ?_;refine eW (nR V l hl) rfl ⟨⟨0,by simp[LibV.heap],rfl⟩,⟨1,by simp[LibV.heap],rfl⟩,⟨2,by simp[LibV.heap],rfl⟩,an⟩ ?_;rintro v H' ⟨A,c,rfl,rfl⟩;refine az ?_;refine dD λ b=>?_;refine oa ?_;refine ak rfl (λ a=>?_) (λ a=>ag ?_)
 ·refine ao ?_;exact aM [5,6,7,8] ⟨_,rfl,.inl ⟨a,rfl,rfl⟩⟩
 have a:(cN l).2.2=0:=No.1 a;refine gN ?_;refine bj (v:=bZ (cN l).1 A c) 0 ?_;refine fv ?_;refine az ?_;refine dE 5 ?_;refine dv ?_;exact bX 3 1<|bX 2 1<|aM [7,3,0,1] ⟨_,rfl,.inr ⟨a,A,c,rfl,rfl⟩⟩
def eD(p:Nat)(m:cO)(ba bf bs:Nat):Heap:=[.seg p 0 m.cells,.seg ba 0 (arcs m.N.arcs),.seg bf 0 (aj m.f),.seg bs 0 (aj m.s)]
structure cO.At (m:cO) (ba bf bs:Nat):Prop where
 n:m.N.arcs≠[]->m.An=some ⟨ba,0,none⟩
 f:m.f≠[]->m.Af=some ⟨bf,0,none⟩
 s:m.s≠[]->m.As=some ⟨bs,0,none⟩
theorem Dj(m:cO)(c:m.a=true)(p:Nat)(sg:Int)(b:¬ (sg=112\/sg=116\/sg=115)):Fn 22 [.pointer (some ⟨p,0,none⟩),.int .u8 sg] [] [.seg p 0 m.cells] λ v H'=>v=tg (0,1)/\H'=[]:=by
 refine aT Tryz.func22 λ w0=>?_;refine Hg ?_;rw[uO c];refine cR ?_;refine ak rfl (λ h=>absurd rfl h) (λ _=>ag ?_);refine cq ?_;refine jN ?_;refine ao ?_;refine lQ 15 rfl (λ h=>b (.inl h))<|fL ?_;refine lQ 15 rfl (λ h=>b (.inr (.inl h)))<|fL ?_;refine lQ 32 rfl (λ h=>b (.inr (.inr h)))<|fL ?_;exact nU
noncomputable def cO.checkZ(m:cO):Int:=if m.lack [false,true]≠0 then m.lack [false,true] else sU m.N m.f m.s
theorem Lo{m:cO}{l:LB_}(h:m.lack l=0):m.a=true:=by
 cases b:m.a with
 |true=>rfl
 |false=>rw[Jx b] at h;exact absurd h ab
theorem C8(m:cO)(hm:m.OK)(p c d e:Nat)(a:m.At c d e):Fn 103 [.pointer (some ⟨p,0,none⟩)] [] (eD p m c d e) λ v H'=>v=.int .i64 m.checkZ/\H'=[]:=by
 have k:=hm.flen;refine aT Tryz.func103 λ w0=>?_;refine c9 ?_;refine dp λ g=>?_;refine cj (fst:=[]) (cap:=[]) (kt m p [false,true] ab (aL g 0) 2 2 g 0 aK rfl) rfl ⟨⟨1,_,by simp[eD],rfl,bq _ _ _,cC⟩,ew 0 rfl,an⟩ ?_;refine cR ?_;refine ak rfl (λ b=>?_) (λ b=>ag ?_)
 ·refine ao ?_;refine aM [] ⟨_,rfl,?_,rfl⟩;unfold cO.checkZ;rw[if_pos b];rfl
 have b:m.lack [false,true]=0:=No.1 b;have j:=hm.net (Lo b);refine cq ?_;refine bM 14 (dT [0,1,2,3,4,5,6,7,8,9,10,11]++[(12,false)]++dT [13]) [1,2,3,4] aX ab rfl<|FM ?_;refine a9 ?_;refine bh (v:=.slice m.As m.s.length m.cs) rfl (aZ (i:=5) 0 rfl rfl rfl) ?_;refine cz ?_;refine cj (Fa m.N j.fits' j m.An m.cn c 0 a.n m.f hm.fin aa m.Af m.cf d 0 a.f m.s hm.slen m.As m.cs e 0 a.s) rfl ⟨⟨2,_,by simp[eD],rfl,bq _ _ _,cC⟩,⟨3,_,by simp[eD],rfl,bq _ _ _,cC⟩,⟨4,_,by simp[eD],rfl,bq _ _ _,cC⟩,an⟩ ?_;refine b6 [1,2,3,4]<|ir ?_;refine aM [] ⟨_,rfl,?_,rfl⟩;unfold cO.checkZ;rw[if_neg (λ h=>h b)];rfl
structure Gr.Fits (g:Gr):Prop where
 left:b7 g.left
 right:b7 g.right
 len:g.edges.length<=1500
 edge:∀ e∈g.edges,b7 e.l/\b7 e.r
def Ky(g:Gr)(e:ni):Prop:=(1<=e.l/\e.l<=g.left)/\(1<=e.r/\e.r<=g.right)
open Classical in
noncomputable def ex(g:Gr):Int:=if ¬ ((1<=g.left/\g.left<=200)/\(1<=g.right/\g.right<=200)) then 3 else if ∀ e∈g.edges,Ky g e then 0 else 4
theorem j9{g:Gr}(h:g.Fits):ex g=0↔g.Right:=by
 unfold ex
 constructor
 ·intro a;split at a
  ·exact absurd a ab
  ·rename_i b;have b:=No.1 b;split at a
   ·rename_i d;exact⟨b.1,b.2,h.len,d⟩
   ·exact absurd a ab
 ·intro c;rw[if_neg (λ k=>k ⟨c.left,c.right⟩),if_pos (show ∀ e∈g.edges,Ky g e from c.edge)]
theorem zi{g:Gr}(h:¬ ((1<=g.left/\g.left<=200)/\(1<=g.right/\g.right<=200))):ex g=3:=by unfold ex;rw[if_pos h]
theorem xV{g:Gr}(h:(1<=g.left/\g.left<=200)/\(1<=g.right/\g.right<=200)){e:ni}(he:e∈g.edges)(a:¬ Ky g e):ex g=4:=by unfold ex;rw[if_neg (λ k=>k h),if_neg (λ k=>a (k e he))]
theorem ye{g:Gr}(h:(1<=g.left/\g.left<=200)/\(1<=g.right/\g.right<=200))(he:∀ e∈g.edges,Ky g e):ex g=0:=by unfold ex;rw[if_neg (λ k=>k h),if_pos he]
theorem BO(g:Gr)(m:g.Fits)(A:OA_)(c b o:Nat)(n:g.edges≠[]->A=some ⟨b,o,none⟩):Fn 153 [xQ g A c] [] [.seg b o (fO g.edges)] λ v H'=>v=.int .i64 (ex g)/\H'=[]:=by
 have u:=m.len;refine aT Tryz.func153 λ w0=>?_;refine bu ?_;refine cY (cs:=rL g A c) λ p=>?_;refine im ?_;refine fN [(5,.bool (!dR ((1<=g.left/\g.left<=200)/\(1<=g.right/\g.right<=200)))),(1,ap p 0)] [blk p 178 (rL g A c),.seg b o (fO g.edges)] ?_ ?_
 ·refine aI ?_
  (first|refine ae [] (ad 0 rfl) rfl ?_|refine ae [] (ad 1 rfl) rfl ?_|refine ae [] (ad 2 rfl) rfl ?_|refine ae [] (ad 3 rfl) rfl ?_|refine ae [] (ad 4 rfl) rfl ?_|refine ae [] (ad 5 rfl) rfl ?_|refine ae [] (ad 6 rfl) rfl ?_|refine ae [] (ad 7 rfl) rfl ?_)
  refine cj (gO g.left 200) rfl an ?_;refine az ?_;by_cases a:1<=g.left/\g.left<=200
  ·refine aA 10 (v':=.bool false) rfl (congrArg Value.bool (by rw[aQ a];rfl))<|bp [4] ?_
   (first|refine ae [4] (ad 0 rfl) rfl ?_|refine ae [4] (ad 1 rfl) rfl ?_|refine ae [4] (ad 2 rfl) rfl ?_|refine ae [4] (ad 3 rfl) rfl ?_|refine ae [4] (ad 4 rfl) rfl ?_|refine ae [4] (ad 5 rfl) rfl ?_|refine ae [4] (ad 6 rfl) rfl ?_|refine ae [4] (ad 7 rfl) rfl ?_)
   refine bA [4] (gO g.right 200) rfl rfl rfl rfl aX an aK<|kD ?_;refine bp [4] ?_;refine ah ⟨[0,1],⟨?_,rfl,an⟩,ab,rfl⟩;show some (Value.bool (!dR _))=_;rw[ey (q:=(1<=g.left/\g.left<=200)/\(1<=g.right/\g.right<=200)) ⟨λ h=>⟨a,h⟩,λ h=>h.2⟩]
  ·refine aA 10 (v':=.bool true) rfl (Na Value.bool (by rw[aU a];rfl))<|bp [4] ?_;refine ah ⟨[0,1],⟨?_,rfl,an⟩,ab,rfl⟩;show some (Value.bool true)=_;rw[aU (λ h=>a h.1)];rfl
 by_cases f:(1<=g.left/\g.left<=200)/\(1<=g.right/\g.right<=200)
 case neg=>
  refine bD 5 (v':=.bool true) rfl (Na Value.bool (by rw[aU f];rfl))<|eu ?_;exact aM [] ⟨_,rfl,by rw[zi f];rfl,rfl⟩
 refine bD 5 (v':=.bool false) rfl (Na Value.bool (by rw[aQ f];rfl))<|bo rfl<|aI ?_
 (first|refine ae [] (ad 0 rfl) rfl ?_|refine ae [] (ad 1 rfl) rfl ?_|refine ae [] (ad 2 rfl) rfl ?_|refine ae [] (ad 3 rfl) rfl ?_|refine ae [] (ad 4 rfl) rfl ?_|refine ae [] (ad 5 rfl) rfl ?_|refine ae [] (ad 6 rfl) rfl ?_|refine ae [] (ad 7 rfl) rfl ?_)
 refine aN ?_;refine ak rfl (λ h=>absurd h aa) (λ _=>ag ?_);refine aI ?_
 (first|refine ae [] (ad 0 rfl) rfl ?_|refine ae [] (ad 1 rfl) rfl ?_|refine ae [] (ad 2 rfl) rfl ?_|refine ae [] (ad 3 rfl) rfl ?_|refine ae [] (ad 4 rfl) rfl ?_|refine ae [] (ad 5 rfl) rfl ?_|refine ae [] (ad 6 rfl) rfl ?_|refine ae [] (ad 7 rfl) rfl ?_)
 refine iZ ?_
 refine bP (σ:=Nat) (λ k=>[(24,af k),(23,af g.edges.length),(22,.slice A g.edges.length c),(1,ap p 0)])
  (λ _=>[blk p 178 (rL g A c),.seg b o (fO g.edges)]) (λ k=>k<=g.edges.length/\∀ e∈g.edges.take k,Ky g e) (λ k=>g.edges.length-k) 0 [0,1] a7 ab rfl ⟨Nl _,λ _ h=>absurd h ai⟩ ?_
 rintro k ⟨w,j⟩;refine ao ?_;refine am (ak rfl (λ hlt=>ag ?_) (λ s=>aO ?_))
 ·have hlt:k<g.edges.length:=by omega
  obtain rfl:=n (by intro t;rw[t] at hlt;simp at hlt);obtain⟨e,he⟩:∃ e,g.edges[k]?=some e:=⟨g.edges[k],be hlt⟩;refine am (aq ?_);refine uh ?_;refine aF (aZ 1 rfl rfl (kl he)) ?_;refine dD λ y=>?_;refine mx ?_;refine fN [(41,.bool (!dR (Ky g e))),(24,af k),(23,af g.edges.length),(22,ax b o g.edges.length c),(1,ap p 0)] [blk p 178 (rL g (aL b o) c),.seg b o (fO g.edges)] ?_ ?_
  ·refine aI ?_
   (first|refine ae [] (ad 0 rfl) rfl ?_|refine ae [] (ad 1 rfl) rfl ?_|refine ae [] (ad 2 rfl) rfl ?_|refine ae [] (ad 3 rfl) rfl ?_|refine ae [] (ad 4 rfl) rfl ?_|refine ae [] (ad 5 rfl) rfl ?_|refine ae [] (ad 6 rfl) rfl ?_|refine ae [] (ad 7 rfl) rfl ?_)
   refine az ?_
   (first|refine ae [] (ad 0 rfl) rfl ?_|refine ae [] (ad 1 rfl) rfl ?_|refine ae [] (ad 2 rfl) rfl ?_|refine ae [] (ad 3 rfl) rfl ?_|refine ae [] (ad 4 rfl) rfl ?_|refine ae [] (ad 5 rfl) rfl ?_|refine ae [] (ad 6 rfl) rfl ?_|refine ae [] (ad 7 rfl) rfl ?_)
   refine cj (gO e.l g.left) rfl an ?_;refine az ?_;by_cases a:1<=e.l/\e.l<=g.left
   ·refine aA 34 (v':=.bool false) rfl (congrArg Value.bool (by rw[aQ a];rfl))<|bp [6] ?_
    (first|refine ae [6] (ad 0 rfl) rfl ?_|refine ae [6] (ad 1 rfl) rfl ?_|refine ae [6] (ad 2 rfl) rfl ?_|refine ae [6] (ad 3 rfl) rfl ?_|refine ae [6] (ad 4 rfl) rfl ?_|refine ae [6] (ad 5 rfl) rfl ?_|refine ae [6] (ad 6 rfl) rfl ?_|refine ae [6] (ad 7 rfl) rfl ?_)
    refine bp [6] ?_
    (first|refine ae [6] (ad 0 rfl) rfl ?_|refine ae [6] (ad 1 rfl) rfl ?_|refine ae [6] (ad 2 rfl) rfl ?_|refine ae [6] (ad 3 rfl) rfl ?_|refine ae [6] (ad 4 rfl) rfl ?_|refine ae [6] (ad 5 rfl) rfl ?_|refine ae [6] (ad 6 rfl) rfl ?_|refine ae [6] (ad 7 rfl) rfl ?_)
    refine bA [6] (gO e.r g.right) rfl rfl rfl rfl aX an aK<|kD ?_;refine bp [6] ?_;refine ah ⟨[1,2],⟨?_,rfl,rfl,rfl,rfl,an⟩,ab,rfl⟩;show some (Value.bool (!dR _))=_;rw[ey (q:=Ky g e) ⟨λ h=>⟨a,h⟩,λ h=>h.2⟩]
   ·refine aA 34 (v':=.bool true) rfl (Na Value.bool (by rw[aU a];rfl))<|bp [6] ?_;refine ah ⟨[1,2],⟨?_,rfl,rfl,rfl,rfl,an⟩,ab,rfl⟩;show some (Value.bool true)=_;rw[aU (λ h=>a h.1)];rfl
  by_cases i:Ky g e
  case neg=>
   refine bD 41 (v':=.bool true) rfl (Na Value.bool (by rw[aU i];rfl))<|eu ?_;exact aM [] ⟨_,rfl,by rw[xV f (Nb he) i];rfl,rfl⟩
  refine bD 41 (v':=.bool false) rfl (Na Value.bool (by rw[aQ i];rfl))<|bo rfl (ag ?_);refine ao ?_;refine⟨k+1,[0,1],⟨?_,rfl,rfl,rfl,an⟩,ab,rfl,⟨aa,λ x d=>?_⟩,aa⟩
  ·refine fy ?_;rw[cp aa];rfl
  ·rw[Nu,he] at d
   rcases Np.1 d with d|d
   ·exact j x d
   ·simp at d;rw[d];exact i
 ·obtain rfl:k=g.edges.length:=by omega
  rw[NH] at j;refine ao ?_;exact aM [] ⟨_,rfl,by rw[ye f j];rfl,rfl⟩
end Go.Proofs.YtmcnpaelaieniaaGreatDoor
