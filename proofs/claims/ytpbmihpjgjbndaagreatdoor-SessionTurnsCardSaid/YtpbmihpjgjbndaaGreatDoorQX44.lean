/- The engine and the words that all chapters share: several texts in one. -/
import Derived.Test.YtpbmihpjgjbndaaGreatDoorQX27
import Derived.Test.YtpbmihpjgjbndaaGreatDoorQX42
import Derived.Lib.Join
/- Networks read line by line: the whole text. -/
set_option linter.unusedVariables false
set_option linter.unusedSimpArgs false
namespace Go.Proofs.YtpbmihpjgjbndaaGreatDoor
open Go.RowKit
def vY (q:bc×Nat×Int) (v:Value) (H':Heap):Prop:=∃ (A:Option Addr) (c:Nat),v=.tuple #[bn q.1 A c,.int .i64 q.2.1,.int .i64 q.2.2]∧H'=[.own (.slice A q.1.arcs.length c) 70 3 q.1.arcs.length (arcs q.1.arcs)]
theorem fH:∀ (l cur:List UInt8),∀ x∈bP cur l,x.length≤cur.length+l.length
 |[],cur,x,hx=>by
  unfold bP at hx
  split at hx
  ·cases hx
  ·obtain rfl:=List.mem_singleton.1 hx;simp
 |b::l,cur,x,hx=>by
  unfold bP at hx
  rw[List.length_cons]
  split at hx
  ·split at hx
   ·have:=fH l [] x hx
    simp at this;omega
   ·rcases List.mem_cons.1 hx with rfl|hx
    ·omega
    ·have:=fH l [] x hx
     simp at this;omega
  ·have:=fH l _ x hx
   simp at this;omega
theorem qY (l:List UInt8):∀ x∈bx l,x.length≤l.length:=fun x hx=>by
 have:=fH l [] x hx
 simpa using this
theorem ig (c:UInt8):∀ (l cur:List UInt8),∀ x∈bD c cur l,x.length≤cur.length+l.length
 |[],cur,x,hx=>by
  obtain rfl:=List.mem_singleton.1 hx;simp
 |b::l,cur,x,hx=>by
  unfold bD at hx
  rw[List.length_cons]
  split at hx
  ·rcases List.mem_cons.1 hx with rfl|hx
   ·omega
   ·have:=ig c l [] x hx
    simp at this;omega
  ·have:=ig c l _ x hx
   simp at this;omega
theorem rJ (l:List UInt8):∀ x∈aY l,x.length≤l.length:=fun x hx=>by
 unfold aY at hx
 split at hx
 ·cases hx
 ·have h1:=ig 10 _ [] x hx
  have h2:(Lib.trimSuffix l [10]).length≤l.length:=by
   unfold Lib.trimSuffix
   split<;>simp
  simp at h1;omega
theorem wA (V:eb) (l:List UInt8) (hl:l.length≤9999999):Fn 40 [eN l] [] V.heap (vY (eg l)):=by
 have hll:=vi l
 refine iX Tryz.func40 rfl rfl fun w0=>?_
 refine ad (aa ?_)
 refine bA rfl rfl rfl (fun _=>rfl) fun p2=>?_
 refine ae [] rfl ?_
 refine ad (aa ?_)
 refine ab [] (v:=.agg (yN l7 none 0).toArray) (be rfl rfl rfl rfl rfl rfl) rfl ?_
 refine br (cs:=yN l7 none 0) rfl rfl rfl (fun _=>rfl) fun p=>?_
 refine dC 70 3 ?_
 refine ae [] rfl ?_
 refine ad (aa (ah [] rfl ?_))
 refine ap [] (vu V l (by omega)) rfl rfl rfl rfl (by kernel_rfl) ⟨⟨3,by simp,rfl⟩,⟨4,by simp,rfl⟩,⟨5,by simp,rfl⟩,trivial⟩ (fun _=>rfl) ?_
 rintro v H' ⟨Al,n,hn,rfl,rfl⟩
 refine⟨rfl,?_⟩
 subst hn
 refine ae [] rfl ?_
 refine ad (ad (aa (ae [] rfl ?_)))
 refine ax ?_
 refine bN (σ:=Nat×Rd×Option Addr×Nat) (fun s=>[(17,.int .i64 s.1),(16,.int .i64 (aY l).length),(15,.slice Al (aY l).length (aY l).length),(6,.slice Al (aY l).length (aY l).length),(5,.pointer (some ⟨p,0,none⟩)),(2,.pointer (some ⟨p2,0,none⟩))])
  (fun s=>kT p s.2.2.1 s.2.2.2 s.2.1++[blk p2 27 (bQ lY none 0),.own (.slice Al (aY l).length (aY l).length) 9 1 (aY l).length (du (aY l))]++V.heap)
  (fun s=>s.1≤(aY l).length∧s.2.1.OK∧eq l7 0 (aY l)=eq s.2.1 s.1 ((aY l).drop s.1)) (fun s=>(aY l).length-s.1) (0,l7,none,0) [2,1,3,0,4,5,6] ⟨rfl,rfl,rfl,rfl,rfl,rfl,trivial⟩ (by decide) rfl ⟨Nat.zero_le _,y0,rfl⟩ ?_
 rintro⟨k,r,A,c⟩ ⟨hk,ok,hrd⟩
 simp only at hk ok hrd ⊢
 refine ad (aa (ae [] rfl ?_))
 refine ad (aD rfl (fun hlt=>aq ?_) (fun hge=>a6 ?_))
 ·have hlt':k<(aY l).length:=by omega
  obtain⟨x,hx⟩:∃ x,(aY l)[k]?=some x:=⟨(aY l)[k],List.getElem?_eq_getElem hlt'⟩
  have hxl:=rJ l x (List.mem_of_getElem? hx)
  refine bB (bg 3 rfl) (fun ho=>?_)
  obtain⟨gl,rfl⟩:=ho.2.2.1 (by omega)
  have hrd2:eq l7 0 (aY l)=if (r.line (bx x)).2≠0 then (r,k+1,(r.line (bx x)).2) else eq (r.line (bx x)).1 (k+1) ((aY l).drop (k+1)):=by
   rw[hrd,List.drop_eq_getElem_cons hlt']
   have:(aY l)[k]=x:=by
    have:=List.getElem?_eq_getElem hlt'
    rw[hx] at this;exact (Option.some.inj this).symm
   rw[this]
   rfl
  refine ad (ax ?_)
  refine ad (aa (ah [] rfl ?_))
  refine ab [] (aU rfl rfl rfl rfl rfl hlt') rfl ?_
  refine ab [] (aG 3 rfl rfl rfl (fM hx)) rfl ?_
  refine ae [] rfl ?_
  refine ad (aa (ah [] rfl ?_))
  refine ap [] (wB x (by omega)) rfl rfl rfl rfl (by kernel_rfl) trivial (fun _=>rfl) ?_
  rintro v H' ⟨B,n,hn,rfl,rfl⟩
  subst hn
  refine⟨rfl,?_⟩
  refine gq (bg 0 rfl) (fun hw=>?_)
  obtain⟨gB,hB⟩:∃ gB,bx x≠[]→B=some ⟨gB,0,none⟩:=by
   by_cases h:bx x=[]
   ·exact⟨0,fun k=>absurd h k⟩
   ·obtain⟨g,e⟩:=hw.2.2.1 (List.length_pos_iff.2 h)
    exact⟨g,fun _=>e⟩
  have hB':du (bx x)≠[]→B=some ⟨gB,0,none⟩:=fun h=>hB (by rintro e;rw[e] at h;exact h rfl)
  have hwl:=wQ x
  have hwe:=qY x
  refine ap [] (yK (bx x) (by omega) B gB 0 hB) rfl rfl rfl rfl (by kernel_rfl) ⟨⟨0,_,by simp,rfl,aS hB',aX hB'⟩,trivial⟩ (fun _=>rfl) ?_
  rintro v H' ⟨rfl,rfl⟩
  refine⟨rfl,?_⟩
  refine bA rfl rfl rfl (fun _=>rfl) fun p9=>?_
  refine aE 0 rfl rfl rfl rfl rfl [] rfl ?_
  refine ae [] rfl ?_
  refine ad (aa (ah [] rfl ?_))
  refine ab [] (af (i:=1) 0 rfl rfl rfl rfl) rfl ?_
  refine ah [] rfl ?_
  refine ab [] (af (i:=0) 0 rfl rfl rfl rfl) rfl ?_
  refine au (fst:=[]) (cap:=[]) [] (xS V (bx x) (fun y hy=>by have:=hwe y hy;omega) (by omega) B gB 0 hB p r ok A c) rfl rfl rfl rfl (vV _) (K:=[.own (.slice B (bx x).length (bx x).length) 9 1 (bx x).length (du (bx x)),blk p2 27 (bQ lY none 0),.own (.slice (some ⟨gl,0,none⟩) (aY l).length (aY l).length) 9 1 (aY l).length (du (aY l))]++V.heap) (aL.picks [2,3,1,4,5,6,7,8] (by decide) rfl)
   ⟨⟨0,_,by simp,rfl,aS hB',aX hB'⟩,⟨3,by simp,rfl⟩,⟨4,by simp,rfl⟩,⟨5,by simp,rfl⟩,trivial⟩ (fun _=>rfl) ?_
  rintro v H' ⟨rfl,A',c',rfl⟩
  refine⟨rfl,?_⟩
  refine ae [] rfl ?_
  refine ad (aa (ae [] rfl ?_))
  refine aD rfl (fun he=>?_) (fun he=>aq ?_)
  ·rw[if_pos he] at hrd2
   refine ad (aa (ah [] rfl ?_))
   refine ab [] (v:=bn lY none 0) (be rfl rfl rfl rfl rfl rfl) rfl ?_
   refine ah [] rfl ?_
   refine aE 3 rfl rfl rfl rfl rfl [] rfl ?_
   refine ah [] rfl ?_
   refine dC 70 3 ?_
   refine ai ?_
   refine ay ⟨[_,_,_],[0],_,⟨⟨p2,4,_,_,rfl,rfl,rfl⟩,rfl,rfl,trivial⟩,by decide,rfl,?_⟩
   unfold vY eg
   rw[hrd2,if_pos he]
   refine⟨none,0,?_,rfl⟩
   rw[cj (by omega)]
   rfl
  ·rw[if_neg he] at hrd2
   refine aa (ae [] rfl ?_)
   refine⟨(k+1,(r.line (bx x)).1,A',c'),[0,1,3,4,5,6,7],⟨?_,rfl,rfl,rfl,rfl,rfl,trivial⟩,by decide,rfl,⟨by simp only;omega,ok.line _,hrd2⟩,by simp only;omega⟩
   show some (Value.int .i64 (IntKind.i64.wrap ((k:Int)+1)))=_
   rw[cj (by omega)];rfl
 have hkl:k=(aY l).length:=by omega
 subst hkl
 rw[List.drop_length] at hrd
 have hrd3:eq l7 0 (aY l)=(r,0,0):=hrd
 have hlen:=ok.len
 have pbad:(r.most=-1∨r.src=0∨r.snk=0)→eg l=(lY,(aY l).length+1,2):=fun h=>by
  unfold eg
  rw[hrd3,if_neg (by simp),if_pos h]
 refine ad (ax ?_)
 refine ad (aa (ah [] rfl ?_))
 refine ab [] (af (i:=4) (v:=.int .i64 r.most) 0 rfl rfl rfl rfl) rfl ?_
 refine ah [] rfl ?_
 by_cases h1:r.most=-1
 ·refine av 44 (v':=.bool true) rfl (congrArg Value.bool (aA h1)) ?_
  refine ah [5] rfl ?_
  refine av 52 (v':=.bool true) rfl rfl ?_
  refine ae [5,13] rfl ?_
  refine a8 rfl ?_
  refine ad (aa (ah [] rfl ?_))
  refine ab [] (v:=bn lY none 0) (be rfl rfl rfl rfl rfl rfl) rfl ?_
  refine ah [] rfl ?_
  refine aE 2 rfl rfl rfl rfl rfl [] rfl ?_
  refine ah [] rfl ?_
  refine dC 70 3 ?_
  refine ai ?_
  refine ay ⟨[_,_,_],[0],_,⟨⟨p2,3,_,_,rfl,rfl,rfl⟩,rfl,rfl,trivial⟩,by decide,rfl,?_⟩
  rw[pbad (.inl h1)]
  refine⟨none,0,?_,rfl⟩
  rw[cj (by omega)]
  rfl
 refine av 44 (v':=.bool false) rfl (congrArg Value.bool (aB h1)) ?_
 refine ah [5] rfl ?_
 refine ab [5] (af (i:=1) (v:=.int .i64 r.src) 0 rfl rfl rfl rfl) rfl ?_
 refine ah [5] rfl ?_
 by_cases h2:r.src=0
 ·refine av 52 (v':=.bool true) rfl (congrArg Value.bool (aA h2)) ?_
  refine ae [5,13] rfl ?_
  refine a8 rfl ?_
  refine ad (aa (ah [] rfl ?_))
  refine ab [] (v:=bn lY none 0) (be rfl rfl rfl rfl rfl rfl) rfl ?_
  refine ah [] rfl ?_
  refine aE 2 rfl rfl rfl rfl rfl [] rfl ?_
  refine ah [] rfl ?_
  refine dC 70 3 ?_
  refine ai ?_
  refine ay ⟨[_,_,_],[0],_,⟨⟨p2,3,_,_,rfl,rfl,rfl⟩,rfl,rfl,trivial⟩,by decide,rfl,?_⟩
  rw[pbad (.inr (.inl h2))]
  refine⟨none,0,?_,rfl⟩
  rw[cj (by omega)]
  rfl
 refine av 52 (v':=.bool false) rfl (congrArg Value.bool (aB h2)) ?_
 refine ah [5,13] rfl ?_
 refine ab [5,13] (af (i:=2) (v:=.int .i64 r.snk) 0 rfl rfl rfl rfl) rfl ?_
 refine ae [5,13] rfl ?_
 refine aD rfl (fun h3=>?_) (fun h3=>?_)
 ·refine ad (aa (ah [] rfl ?_))
  refine ab [] (v:=bn lY none 0) (be rfl rfl rfl rfl rfl rfl) rfl ?_
  refine ah [] rfl ?_
  refine aE 2 rfl rfl rfl rfl rfl [] rfl ?_
  refine ah [] rfl ?_
  refine dC 70 3 ?_
  refine ai ?_
  refine ay ⟨[_,_,_],[0],_,⟨⟨p2,3,_,_,rfl,rfl,rfl⟩,rfl,rfl,trivial⟩,by decide,rfl,?_⟩
  rw[pbad (.inr (.inr h3))]
  refine⟨none,0,?_,rfl⟩
  rw[cj (by omega)]
  rfl
 refine ad ?_
 refine bz 12 [(0,true),(1,true),(2,true),(3,true),(4,true),(5,true),(6,true),(7,true),(8,true),(9,true),(10,true),(11,true)] [0] (by kernel_rfl) (by decide) rfl ?_
 refine aH [] rfl ?_
 refine aj [] rfl (af (i:=3) (v:=.slice A r.arcs.length c) 0 rfl rfl rfl rfl) rfl ?_
 refine aH [] rfl ?_
 refine aj [] rfl (af (i:=4) (v:=.int .i64 r.most) 0 rfl rfl rfl rfl) rfl ?_
 refine dH [] rfl ?_
 refine ai ?_
 have fold:eg l=if (r.arcs.length:Int)<r.most then (lY,(aY l).length+1,6) else (⟨r.nodes,r.src,r.snk,r.arcs⟩,0,0):=by
  unfold eg
  rw[hrd3,if_neg (by simp),if_neg (by rintro (k|k|k);exact h1 k;exact h2 k;exact h3 k)]
 refine aD rfl (fun h4=>?_) (fun h4=>aq ?_)
 ·refine ad (aa (ah [] rfl ?_))
  refine ab [] (v:=bn lY none 0) (be rfl rfl rfl rfl rfl rfl) rfl ?_
  refine ah [] rfl ?_
  refine aE 2 rfl rfl rfl rfl rfl [] rfl ?_
  refine ah [] rfl ?_
  refine dC 70 3 ?_
  refine ai ?_
  refine ay ⟨[_,_,_],[0],_,⟨⟨p2,3,_,_,rfl,rfl,rfl⟩,rfl,rfl,trivial⟩,by decide,rfl,?_⟩
  rw[fold.trans (if_pos h4)]
  refine⟨none,0,?_,rfl⟩
  rw[cj (by omega)]
  rfl
 rw[if_neg h4] at fold
 refine ad (aa (ah [] rfl ?_))
 refine ab [] (v:=bn ⟨r.nodes,r.src,r.snk,r.arcs⟩ A c) (af (i:=0) 0 rfl rfl rfl rfl) rfl ?_
 refine ah [] rfl ?_
 refine aE 2 rfl rfl rfl rfl rfl [] rfl ?_
 refine ae [] rfl ?_
 refine ay ⟨[_,_,_],[1],_,⟨⟨p2,2,_,_,rfl,rfl,rfl⟩,rfl,rfl,trivial⟩,by decide,rfl,?_⟩
 rw[fold]
 exact⟨A,c,rfl,rfl⟩
end Go.Proofs.YtpbmihpjgjbndaaGreatDoor
/- A text of one arc that stands many times: what it says. -/
set_option linter.unusedVariables false
set_option linter.unusedSimpArgs false
namespace Go.Proofs.YtpbmihpjgjbndaaGreatDoor
open Lib
theorem pE {n:Int} (h:0≤n):itoa n=decDigits n.toNat:=by
 unfold itoa;rw[if_neg (by omega)]
theorem xy {b:UInt8} (h:lC b=true):b≠10∧l5 b=false:=by
 unfold lC at h
 have h':=of_decide_eq_true h
 refine⟨fun e=>?_,?_⟩
 ·subst e;simp at h'
 ·unfold l5
  have h1:b.toNat≠32:=by omega
  have h2:b.toNat≠9:=by omega
  have h3:b.toNat≠13:=by omega
  simp[h1,h2,h3]
theorem kl {n:Int} (h:0≤n):∀ b∈itoa n,b≠10∧l5 b=false:=by
 intro b hb
 rw[pE h] at hb
 exact xy (List.all_eq_true.1 (oL _) b hb)
theorem pq {n:Int} (h:0≤n):itoa n≠[]:=by rw[pE h];exact pO _
theorem uL {m:List UInt8} (h:∀ b∈m,b≠10) (t:List UInt8):aY (m++10::t)=m::aY t:=by
 rw[tq,fJ,ii 10 m [] h];rfl
theorem kV {m:List UInt8} (h:∀ b∈m,l5 b=false) (hne:m≠[]):bx m=[m]:=by
 unfold bx
 have:=im m [] [] h
 rw[List.append_nil] at this
 rw[this]
 simp[bP,hne]
theorem w5 {k:Int} (h:0≤k):bx ([112,32,109,97,120,32,50,32]++itoa k)=[[112],[109,97,120],[50],itoa k]:=by
 rw[show ([112,32,109,97,120,32,50,32]:List UInt8)++itoa k=[112,32,109,97,120,32,50]++32::itoa k from rfl,gV rfl,kV (fun b hb=>(kl h b hb).2) (pq h)]
 rfl
theorem xa {c:Int} (h:0≤c):bx ([97,32,49,32,50,32]++itoa c)=[[97],[49],[50],itoa c]:=by
 rw[show ([97,32,49,32,50,32]:List UInt8)++itoa c=[97,32,49,32,50]++32::itoa c from rfl,gV rfl,kV (fun b hb=>(kl h b hb).2) (pq h)]
 rfl
def yJ (k c:Int) (j:Nat):Rd:=⟨2,2,1,List.replicate j ⟨1,2,c⟩,k,j*c⟩
theorem yk:dj [50]=(2,0):=by decide
theorem zh:dj [49]=(1,0):=by decide
theorem Rd.line_p (r:Rd) (w:Ws):r.line ([112]::w)=r.problem ([112]::w):=by simp[Rd.line]
theorem Rd.line_n (r:Rd) (w:Ws):r.line ([110]::w)=r.end_ ([110]::w):=by simp[Rd.line]
theorem Rd.line_a (r:Rd) (w:Ws):r.line ([97]::w)=r.arc ([97]::w):=by simp[Rd.line]
theorem rv (r:Rd) (i:Nat) (x:List UInt8) (ls:List (List UInt8)):eq r i (x::ls)=if (r.line (bx x)).2≠0 then (r,i+1,(r.line (bx x)).2) else eq (r.line (bx x)).1 (i+1) ls:=rfl
theorem zJ {k:Int} (h:0≤k∧k≤2000):l7.line (bx ([112,32,109,97,120,32,50,32]++itoa k))=(⟨2,0,0,[],k,0⟩,0):=by
 rw[w5 h.1]
 have hn:bd [[50],itoa k]=([2,k],0):=by
  unfold bd;unfold bd;unfold bd
  rw[mM k (by omega),yk];rfl
 rw[Rd.line_p]
 unfold Rd.problem
 rw[if_neg (by simp[l7]),show List.drop 2 [[112],[109,97,120],[50],itoa k]=[[50],itoa k] from rfl,hn]
 rw[if_neg (by simp),if_neg (by simp;omega)]
 rfl
theorem zQ {k c:Int} (hc:0≤c∧c≤4611686018427387903) {j:Nat} (hj:(j:Int)<k):(yJ k c j).line (bx ([97,32,49,32,50,32]++itoa c))=if 4611686018427387903<j*c+c then (yJ k c j,7) else (yJ k c (j+1),0):=by
 rw[xa hc.1]
 have hn:bd [[49],[50],itoa c]=([1,2,c],0):=by
  unfold bd;unfold bd;unfold bd;unfold bd
  rw[mM c (by omega),yk,zh];rfl
 rw[Rd.line_a]
 unfold Rd.arc
 rw[if_neg (by simp[yJ]),show List.drop 1 [[97],[49],[50],itoa c]=[[49],[50],itoa c] from rfl,hn]
 rw[if_neg (by simp),if_neg (by simp[yJ]),if_neg (by simp;omega),if_neg (by simp[yJ];omega)]
 show (if 4611686018427387903<(j:Int)*c+c then _ else _)=_
 split
 ·rfl
 ·refine Prod.ext ?_ rfl
  unfold yJ
  have e:(List.replicate j (dG.mk 1 2 c))++[⟨1,2,c⟩]=List.replicate (j+1) ⟨1,2,c⟩:=by rw[List.replicate_succ']
  have e2:(j:Int)*c+c=((j+1:Nat):Int)*c:=by rw[Int.natCast_add,Int.add_mul];simp
  show Rd.mk 2 2 1 (List.replicate j (dG.mk 1 2 c)++[⟨1,2,c⟩]) k ((j:Int)*c+c)=_
  rw[e,e2]
end Go.Proofs.YtpbmihpjgjbndaaGreatDoor
/- Words joined. -/
set_option linter.unusedVariables false
set_option linter.unusedSimpArgs false
namespace Go.Proofs.YtpbmihpjgjbndaaGreatDoor
open Go.RowKit
theorem vB (A:Option Addr) (n c b o:Nat) (xs:List (List UInt8)) (sep:List UInt8) (hn:n=xs.length) (hA:xs≠[]→A=some ⟨b,o,none⟩) (hc:n≤c) (hl:(Lib.join xs sep).length≤140737488355328) (hx:xs.length≤140737488355328):
 Fn 118 [.slice A n c,eN sep] [] [.seg b o (du xs)] fun v H'=>v=eN (Lib.join xs sep)∧H'=[]:=by
 subst hn
 by_cases h0:xs=[]
 ·subst h0
  exact Fn.of_below fun w _=>(Any.strings_Join_none Tryz.lays156 Tryz.Builder_Extra_156 A c ⟨sep.toArray⟩ w).mono fun e w' ⟨he,hw⟩=>⟨_,he,hw▸Below.refl _ _,rfl,rfl⟩
 ·obtain rfl:=hA h0
  refine Fn.of_below fun w hw=>?_
  have hseg:=hw.holds (.seg b o (du xs)) (by simp)
  have hmap:((xs.map fun x=>(⟨x.toArray⟩:ByteArray)).map (·.data.toList))=xs:=by
   rw[List.map_map]
   exact (List.map_congr_left fun x _=>(rfl:_=id x)).trans (List.map_id xs)
  have hcell:∀ (j:Nat) x,(xs.map fun x=>(⟨x.toArray⟩:ByteArray))[j]?=some x→w.cell? ⟨b,o+j,none⟩=some (.string x):=by
   intro j x hj
   rw[List.getElem?_map] at hj
   obtain⟨y,hy,rfl⟩:=Option.map_eq_some_iff.1 hj
   exact hseg j _ (qA hy)
  have hlt:b<w.heap.size:=by
   cases xs with
   |nil=>exact absurd rfl h0
   |cons x r=>exact World.block_lt_of_cell? w _ (hseg 0 _ rfl)
  have T:=Any.strings_Join Tryz.lays156 Tryz.Builder_Extra_156 b o c (xs.map fun x=>(⟨x.toArray⟩:ByteArray)) ⟨sep.toArray⟩ w hcell hlt (by simpa using hx) (by simpa using hc) (by rw[hmap];exact hl)
  rw[List.length_map,hmap] at T
  exact T.mono fun e w' ⟨he,hb⟩=>⟨_,he,hb,rfl,rfl⟩
theorem wJ (A:Option Addr) (n c b o:Nat) (xs:List (List UInt8)) (hn:n=xs.length) (hA:xs≠[]→A=some ⟨b,o,none⟩) (hc:n≤c) (hl:(Lib.join xs [32]).length≤140737488355328) (hx:xs.length≤140737488355328):
 Fn 86 [.slice A n c] [] [.seg b o (du xs)] fun v H'=>v=eN (Lib.join xs [32])∧H'=[]:=by
 refine aK Tryz.func86 rfl rfl fun w0=>?_
 refine ad (aa (ae [] rfl ?_))
 refine ad (aa ?_)
 refine ak (gs:=[999]) rfl ?_
 refine ap [] (vB A n c b o xs [32] hn hA hc hl hx) rfl rfl rfl rfl (by kernel_rfl) ⟨⟨0,_,by simp,rfl,am _ _ _,aw⟩,trivial⟩ (fun _=>rfl) ?_
 rintro v H' ⟨rfl,rfl⟩
 refine⟨rfl,?_⟩
 refine ae [] rfl ?_
 exact aC [] (by decide) rfl (ay ⟨_,rfl,rfl,rfl⟩)
end Go.Proofs.YtpbmihpjgjbndaaGreatDoor
/- A network's text: its lines. -/
set_option linter.unusedVariables false
set_option linter.unusedSimpArgs false
namespace Go.Proofs.YtpbmihpjgjbndaaGreatDoor
open Go.RowKit
open Lib
def lE (f:List UInt8) (l:List Int):List UInt8:=join (f::l.map itoa) [32]
theorem tB (x:List UInt8) (xs:List (List UInt8)) (sep:List UInt8):join (x::xs) sep=x++(xs.map fun y=>sep++y).flatten:=by
 unfold join
 induction xs generalizing x with
 |nil=>simp[List.intercalate]
 |cons y r ih=>
  have:=ih y
  simp only[List.intercalate] at this ⊢
  rw[List.intersperse_cons_cons]
  simp only[List.flatten_cons,List.map_cons]
  rw[this]
  simp
theorem np (f:List UInt8) (l:List Int):lE f l=f++(l.map fun n=>32::itoa n).flatten:=by
 unfold lE
 rw[tB,List.map_map]
 rfl
theorem eE (f:List UInt8) (l:List Int) (hl:∀ n∈l,cL n):(lE f l).length≤f.length+l.length*21:=by
 rw[np,List.length_append]
 have:((l.map fun n=>32::itoa n).flatten).length≤l.length*21:=by
  induction l with
  |nil=>simp
  |cons n r ih=>
   have h1:=hl n (by simp)
   unfold cL at h1
   have h2:=(wY n (by omega)).2
   have h3:=ih fun x hx=>hl x (by simp[hx])
   simp only[List.map_cons,List.flatten_cons,List.length_append,List.length_cons]
   omega
 omega
theorem fO (V:eb) (f:List UInt8) (hf:f.length≤100) (l:List Int) (hl:∀ n∈l,cL n) (hll:l.length≤100) (B:Option Addr) (n cb bb ob:Nat) (hB:l≠[]→B=some ⟨bb,ob,none⟩) (hn:n=l.length):
 Fn 63 [eN f,.slice B n cb] [] ([.seg bb ob (az l)]++V.heap) fun v H'=>v=eN (lE f l)∧H'=[]:=by
 subst hn
 have hwl:=eE f l hl
 refine aK Tryz.func63 rfl rfl fun w0=>?_
 refine ad (aa (ae [] rfl ?_))
 refine ad (aa (ah [] rfl ?_))
 refine bS rfl rfl rfl rfl rfl rfl rfl (fun _=>rfl) fun g0=>?_
 refine mV 1 1 (by rfl) (by decide) ?_
 refine ae [] rfl ?_
 refine ad (ad (aa (ae [] rfl ?_)))
 refine ax ?_
 refine bN (σ:=Nat×Option Addr×Nat) (fun s=>[(12,.int .i64 s.1),(11,.int .i64 l.length),(10,.slice B l.length cb),(5,.slice s.2.1 (f::(l.take s.1).map itoa).length s.2.2)])
  (fun s=>[.own (.slice s.2.1 (f::(l.take s.1).map itoa).length s.2.2) 9 1 (f::(l.take s.1).map itoa).length (du (f::(l.take s.1).map itoa)),.seg bb ob (az l)]++V.heap)
  (fun s=>s.1≤l.length) (fun s=>l.length-s.1) (0,some ⟨g0,0,none⟩,1) [0,1,2,3,4] ⟨rfl,rfl,rfl,rfl,trivial⟩ (by decide) rfl (Nat.zero_le _) ?_
 rintro⟨k,A,c⟩ hk
 simp only at hk ⊢
 refine ad (aa (ae [] rfl ?_))
 refine ad (aD rfl (fun hlt=>aq ?_) (fun hge=>a6 ?_))
 ·have hlt':k<l.length:=by omega
  obtain⟨x,hx⟩:∃ x,l[k]?=some x:=⟨l[k],List.getElem?_eq_getElem hlt'⟩
  obtain rfl:=hB (by rintro rfl;simp at hlt')
  have hxB:=hl x (List.mem_of_getElem? hx)
  have hlen:(f::(l.take k).map itoa).length=k+1:=by rw[List.length_cons,List.length_map,List.length_take];omega
  refine ad (ax ?_)
  refine ad (aa (ah [] rfl ?_))
  refine ab [] (dD rfl rfl rfl rfl rfl hlt') rfl ?_
  refine ab [] (bw 1 rfl rfl rfl rfl (bh hx)) rfl ?_
  refine ae [] rfl ?_
  refine aa (ah [] rfl ?_)
  refine ap [] (wo V x hxB) rfl rfl rfl rfl (by kernel_rfl) ⟨⟨2,by simp,rfl⟩,⟨3,by simp,rfl⟩,⟨4,by simp,rfl⟩,trivial⟩ (fun _=>rfl) ?_
  rintro v H' ⟨rfl,rfl⟩
  refine⟨rfl,?_⟩
  refine bS rfl rfl rfl rfl rfl rfl rfl (fun _=>rfl) fun g2=>?_
  refine bu (n:=(f::(l.take k).map itoa).length) (m:=1) (off:=0) (news:=du [itoa x]) 1 0 rfl rfl rfl rfl rfl rfl (by decide) rfl rfl (aF g2 _ _ (0,0)) (fun _=>rfl) rfl rfl (by omega) (by omega) (fun _ _=>rfl) fun A2 c2=>?_
  refine ae [] rfl ?_
  refine aa (ae [] rfl ?_)
  have htk:f::(l.take (k+1)).map itoa=(f::(l.take k).map itoa)++[itoa x]:=by rw[List.take_add_one,hx];simp
  refine⟨(k+1,A2,c2),[1,2,3,4,5],⟨?_,rfl,rfl,?_,trivial⟩,by decide,?_,by simp only;omega,by simp only;omega⟩
  ·show some (Value.int .i64 (IntKind.i64.wrap ((k:Int)+1)))=_
   rw[cj (by omega)];rfl
  ·simp only[htk];rw[List.length_append];rfl
  ·simp only[htk];rw[List.length_append,show du ((f::(l.take k).map itoa)++[itoa x])=du (f::(l.take k).map itoa)++du [itoa x] by simp[du]];rfl
 obtain rfl:k=l.length:=by omega
 refine bB (bg 0 rfl) (fun ho=>?_)
 obtain⟨g,rfl⟩:=ho.2.2.1 (by simp)
 rw[List.take_length] at*
 refine ad (aa (ah [] rfl ?_))
 refine ap [] (wJ (some ⟨g,0,none⟩) _ c g 0 (f::l.map itoa) rfl (fun _=>rfl) ho.2.1 (by show (lE f l).length≤_;omega) (by simp;omega)) rfl rfl rfl rfl (by kernel_rfl) ⟨⟨0,_,by simp,rfl,cI,.inr rfl⟩,trivial⟩ (fun _=>rfl) ?_
 rintro v H' ⟨rfl,rfl⟩
 refine⟨rfl,?_⟩
 refine ae [] rfl ?_
 exact aC [] (by decide) rfl (ay ⟨_,rfl,rfl,rfl⟩)
end Go.Proofs.YtpbmihpjgjbndaaGreatDoor
