/- The engine and the words that all chapters share: several texts in one. -/
import Derived.Test.YtpbmihpjgjbndaaGreatDoorQX44
import Derived.Test.YtpbmihpjgjbndaaGreatDoorQX35
import Derived.Test.YtpbmihpjgjbndaaGreatDoorSesS
import Derived.Test.YtpbmihpjgjbndaaGreatDoorQX32
import Derived.Test.YtpbmihpjgjbndaaGreatDoorCutX
/- What a network's text says: read by its words. -/
set_option linter.unusedVariables false
set_option linter.unusedSimpArgs false
namespace Go.Proofs.YtpbmihpjgjbndaaGreatDoor
open Lib
def fQ (r:Rd):List Ws→Option Rd
 |[]=>some r
 |w::ws=>if (r.line w).2≠0 then none else fQ (r.line w).1 ws
theorem nH:∀ (ls:List (List UInt8)) (r:Rd) (i:Nat) (r':Rd),fQ r (ls.map bx)=some r'→eq r i ls=(r',0,0)
 |[],r,i,r',h=>by simp only[fQ,List.map_nil,Option.some.injEq] at h;subst h;rfl
 |x::ls,r,i,r',h=>by
  rw[List.map_cons,fQ] at h
  rw[rv]
  split at h
  ·cases h
  ·rename_i h1
   rw[if_neg h1]
   exact nH ls _ _ r' h
def iZ (w:Ws):Bool:=match w with
 |[]=>true
 |x::_=>x==[99]
theorem ug {w:Ws} (h:iZ w=true) (r:Rd):r.line w=(r,0):=by
 unfold iZ at h
 unfold Rd.line
 split
 ·rfl
 ·rename_i x l
  simp only[beq_iff_eq] at h
  rw[if_pos h]
theorem lm:∀ (ws:List Ws) (r:Rd),fQ r ws=fQ r (ws.filter fun w=>!iZ w)
 |[],r=>rfl
 |w::ws,r=>by
  rw[fQ]
  cases h:iZ w with
  |true=>
   rw[ug h,if_neg (by simp),List.filter_cons_of_neg (by simp[h])]
   exact lm ws r
  |false=>
   rw[List.filter_cons_of_pos (by simp[h]),fQ]
   split
   ·rfl
   ·exact lm ws _
def qn:List dG→List Ws→Prop
 |[],[]=>True
 |a::l,w::ws=>(∃ x y z,w=[[97],x,y,z]∧dj x=(a.fr,0)∧dj y=(a.to,0)∧dj z=(a.cap,0))∧qn l ws
 |_,_=>False
def xw (N:bc) (W:List Ws):Prop:=∃ a b c d ws,W=[[112],[109,97,120],a,b]::[[110],c,[115]]::[[110],d,[116]]::ws∧dj a=(N.nodes,0)∧dj b=((N.arcs.length:Int),0)∧dj c=(N.src,0)∧dj d=(N.snk,0)∧qn N.arcs ws
theorem vD {x:List UInt8} {n:Int} (h:dj x=(n,0)):bd [x]=([n],0):=by
 unfold bd;unfold bd;rw[h];rfl
theorem yp {x y:List UInt8} {n m:Int} (h:dj x=(n,0)) (k:dj y=(m,0)):bd [x,y]=([n,m],0):=by
 unfold bd;rw[h,vD k];rfl
theorem zD {x y z:List UInt8} {n m p:Int} (h:dj x=(n,0)) (k:dj y=(m,0)) (j:dj z=(p,0)):bd [x,y,z]=([n,m,p],0):=by
 unfold bd;rw[h,yp k j];rfl
theorem nM:∀ (l:List dG) (ws:List Ws) (r:Rd),qn l ws→r.src≠0→r.snk≠0→(∀ a∈l,(1≤a.fr∧a.fr≤r.nodes)∧(1≤a.to∧a.to≤r.nodes)∧0≤a.cap)→(r.arcs.length:Int)+l.length≤r.most→
 0≤r.sum→r.sum+(l.map (·.cap)).sum≤4611686018427387903→fQ r ws=some { r with arcs:=r.arcs++l,sum:=r.sum+(l.map (·.cap)).sum }
 |[],[],r,_,_,_,_,_,_,_=>by simp[fQ]
 |[],_::_,_,h,_,_,_,_,_,_=>h.elim
 |_::_,[],_,h,_,_,_,_,_,_=>h.elim
 |a::l,w::ws,r,⟨⟨x,y,z,hw,hx,hy,hz⟩,h⟩,h1,h2,h3,h4,h5,h6=>by
  subst hw
  have ha:=h3 a (by simp)
  have hnn:0≤(l.map (·.cap)).sum:=pa fun c hc=>by
   obtain⟨b,hb,rfl⟩:=List.mem_map.1 hc
   exact (h3 b (by simp[hb])).2.2
  rw[List.map_cons,List.sum_cons] at h6
  rw[List.length_cons] at h4
  have hl:r.line [[97],x,y,z]=({ r with sum:=r.sum+a.cap,arcs:=r.arcs++[a] },0):=by
   rw[Rd.line_a]
   unfold Rd.arc
   rw[if_neg (by simp[h1,h2]),show List.drop 1 [[97],x,y,z]=[x,y,z] from rfl,zD hx hy hz]
   rw[if_neg (by simp),if_neg (by simp;omega),if_neg (by simp;omega),if_neg (by omega),if_neg (by simp;omega)]
   rfl
  rw[fQ,hl,if_neg (by simp)]
  have ih:=nM l ws { r with sum:=r.sum+a.cap,arcs:=r.arcs++[a] } h h1 h2 (fun b hb=>h3 b (by simp[hb])) (by simp only[List.length_append,List.length_cons,List.length_nil];omega) (by simp only;omega) (by simp only;omega)
  rw[ih]
  simp[Int.add_assoc]
theorem vr {N:bc} (hR:N.Right) {W:List Ws} (h:xw N W):∃ sm,fQ l7 W=some ⟨N.nodes,N.src,N.snk,N.arcs,N.arcs.length,sm⟩:=by
 obtain⟨a,b,c,d,ws,rfl,ha,hb,hc,hd,hw⟩:=h
 have hnn:=hR.nodes
 have hs:=hR.src
 have ht:=hR.snk
 have hln:=hR.len
 have hne:=hR.diff
 have l1:l7.line [[112],[109,97,120],a,b]=(⟨N.nodes,0,0,[],N.arcs.length,0⟩,0):=by
  rw[Rd.line_p]
  unfold Rd.problem
  rw[if_neg (by simp[l7]),show List.drop 2 [[112],[109,97,120],a,b]=[a,b] from rfl,yp ha hb,if_neg (by simp),if_neg (by simp;omega)]
  rfl
 have l2:Rd.line ⟨N.nodes,0,0,[],N.arcs.length,0⟩ [[110],c,[115]]=(⟨N.nodes,N.src,0,[],N.arcs.length,0⟩,0):=by
  rw[Rd.line_n]
  unfold Rd.end_
  rw[if_neg (by simp<;>omega),if_pos (by rfl),if_neg (by simp),show [[110],c,[115]].getD 1 []=c from rfl,vD hc,if_neg (by simp),if_neg (by simp;omega),if_neg (by simp;omega)]
  rfl
 have l3:Rd.line ⟨N.nodes,N.src,0,[],N.arcs.length,0⟩ [[110],d,[116]]=(⟨N.nodes,N.src,N.snk,[],N.arcs.length,0⟩,0):=by
  rw[Rd.line_n]
  unfold Rd.end_
  rw[if_neg (by simp<;>omega),if_neg (by simp),if_pos (by rfl),if_neg (by simp),show [[110],d,[116]].getD 1 []=d from rfl,vD hd,if_neg (by simp),if_neg (by simp;omega),if_neg (by simp;omega)]
  rfl
 refine⟨0+(N.arcs.map (·.cap)).sum,?_⟩
 rw[fQ,l1,if_neg (by simp),fQ,l2,if_neg (by simp),fQ,l3,if_neg (by simp)]
 rw[nM N.arcs ws ⟨N.nodes,N.src,N.snk,[],N.arcs.length,0⟩ hw (by simp only;omega) (by simp only;omega) hR.arc (by simp) (by simp) (by simpa using hR.sum)]
 simp
theorem ur {N:bc} (hR:N.Right) {s:List UInt8} (h:xw N (((aY s).map bx).filter fun w=>!iZ w)):eg s=(N,0,0):=by
 obtain⟨sm,hf⟩:=vr hR h
 rw[← lm] at hf
 have hr:=nH _ _ 0 _ hf
 have hs:=hR.src
 have ht:=hR.snk
 unfold eg
 rw[hr,if_neg (by simp),if_neg (by simp;omega),if_neg (by simp)]
end Go.Proofs.YtpbmihpjgjbndaaGreatDoor
/- What a written network says. -/
set_option linter.unusedVariables false
set_option linter.unusedSimpArgs false
namespace Go.Proofs.YtpbmihpjgjbndaaGreatDoor
open Lib
theorem v5 (f:List UInt8) (n:Int) (l:List Int):lE f (n::l)=lE (f++32::itoa n) l:=by
 rw[np,np];simp
theorem kF (f:List UInt8) (l:List Int) (h:∀ n∈l,0≤n):bx (lE f l)=bx f++l.map itoa:=by
 induction l generalizing f with
 |nil=>simp[np]
 |cons n l ih=>
  have hn:=h n (by simp)
  rw[v5,ih _ fun x hx=>h x (by simp[hx]),gV rfl,kV (fun b hb=>(kl hn b hb).2) (pq hn)]
  simp
theorem oV {f:List UInt8} {l:List Int} (hf:∀ b∈f,b≠10) (h:∀ n∈l,0≤n):∀ b∈lE f l,b≠10:=by
 intro b hb
 rw[np] at hb
 rcases List.mem_append.1 hb with hb|hb
 ·exact hf b hb
 ·obtain⟨x,hx,hbx⟩:=List.mem_flatten.1 hb
  obtain⟨n,hn,rfl⟩:=List.mem_map.1 hx
  rcases List.mem_cons.1 hbx with rfl|hbx
  ·decide
  ·exact (kl (h n hn) b hbx).1
def r5 (N:bc):List (List UInt8):=lE [112,32,109,97,120] [N.nodes,N.arcs.length]::(lE [110] [N.src]++[32,115])::(lE [110] [N.snk]++[32,116])::N.arcs.map fun a=>lE [97] [a.fr,a.to,a.cap]
theorem wj {N:bc} (hR:N.Right):∀ x∈r5 N,∀ b∈x,b≠10:=by
 have hnn:=hR.nodes
 have hs:=hR.src
 have ht:=hR.snk
 intro x hx
 unfold r5 at hx
 simp only[List.mem_cons,List.mem_map] at hx
 have h110:∀ b∈([110]:List UInt8),b≠10:=by decide
 have h115:∀ b∈([32,115]:List UInt8),b≠10:=by decide
 have h116:∀ b∈([32,116]:List UInt8),b≠10:=by decide
 rcases hx with rfl|rfl|rfl|⟨a,ha,rfl⟩
 ·exact oV (by decide) (fun n hn=>by simp at hn;omega)
 ·intro b hb
  rcases List.mem_append.1 hb with hb|hb
  ·exact oV h110 (fun n hn=>by simp at hn;omega) b hb
  ·exact h115 b hb
 ·intro b hb
  rcases List.mem_append.1 hb with hb|hb
  ·exact oV h110 (fun n hn=>by simp at hn;omega) b hb
  ·exact h116 b hb
 ·have:=hR.arc a ha
  exact oV (by decide) (fun n hn=>by simp at hn;omega)
theorem qv:∀ (ls:List (List UInt8)),(∀ x∈ls,∀ b∈x,b≠10)→aY ((ls.map fun x=>x++[10]).flatten)=ls
 |[],_=>rfl
 |x::ls,h=>by
  rw[List.map_cons,List.flatten_cons,List.append_assoc]
  show aY (x++10::_)=_
  rw[uL (h x (by simp))]
  exact congrArg (x::·) (qv ls fun y hy=>h y (by simp[hy]))
theorem tO (N:bc):gJ N=((r5 N).map fun x=>x++[10]).flatten:=by
 unfold gJ f8 r5
 simp only[List.map_cons,List.flatten_cons,List.map_map,List.append_assoc]
 congr 1
theorem qm {N:bc} (hR:N.Right):aY (gJ N)=r5 N:=by rw[tO,qv _ (wj hR)]
theorem sV:∀ {l:List Int} {x:Int},(∀ y∈l,0≤y)→x∈l→x≤l.sum
 |[],_,_,h=>absurd h List.not_mem_nil
 |y::l,x,h,hx=>by
  have h1:=pa (l:=l) fun z hz=>h z (by simp[hz])
  have h2:=h y (by simp)
  rw[List.sum_cons]
  rcases List.mem_cons.1 hx with rfl|hx
  ·omega
  ·have:=sV (fun z hz=>h z (by simp[hz])) hx
   omega
theorem wS {N:bc} (hR:N.Right) {a:dG} (ha:a∈N.arcs):a.cap≤4611686018427387903:=by
 have:=sV (l:=N.arcs.map (·.cap)) (fun y hy=>by
  obtain⟨b,hb,rfl⟩:=List.mem_map.1 hy
  exact (hR.arc b hb).2.2) (List.mem_map.2 ⟨a,ha,rfl⟩)
 have:=hR.sum
 omega
theorem jU {n:Int} (h:0≤n∧n≤4611686018427387903):dj (itoa n)=(n,0):=mM n (by omega)
theorem mK {N:bc} (hR:N.Right):xw N ((r5 N).map bx):=by
 have hnn:=hR.nodes
 have hs:=hR.src
 have ht:=hR.snk
 have hln:=hR.len
 refine⟨itoa N.nodes,itoa N.arcs.length,itoa N.src,itoa N.snk,N.arcs.map fun a=>[[97],itoa a.fr,itoa a.to,itoa a.cap],?_,jU (by omega),jU (by omega),jU (by omega),jU (by omega),?_⟩
 ·unfold r5
  simp only[List.map_cons,List.map_map]
  rw[kF _ _ (fun n hn=>by simp at hn;omega),show lE [110] [N.src]++[32,115]=lE [110] [N.src]++32::[115] from rfl,gV rfl,kF _ _ (fun n hn=>by simp at hn;omega),show lE [110] [N.snk]++[32,116]=lE [110] [N.snk]++32::[116] from rfl,gV rfl,kF _ _ (fun n hn=>by simp at hn;omega)]
  congr 1
  congr 1
  congr 1
  refine List.map_congr_left fun a ha=>?_
  have:=hR.arc a ha
  show bx (lE [97] [a.fr,a.to,a.cap])=_
  rw[kF _ _ (fun n hn=>by simp at hn;omega)]
  rfl
 ·have key:∀ l:List dG,(∀ a∈l,a∈N.arcs)→qn l (l.map fun a=>[[97],itoa a.fr,itoa a.to,itoa a.cap]):=by
   intro l
   induction l with
   |nil=>intro _;trivial
   |cons a l ih=>
    intro h
    have:=hR.arc a (h a (by simp))
    have:=wS hR (h a (by simp))
    exact⟨⟨_,_,_,rfl,jU (by omega),jU (by omega),jU (by omega)⟩,ih fun b hb=>h b (by simp[hb])⟩
  exact key N.arcs fun a ha=>ha
theorem vG {N:bc} {W:List Ws} (h:xw N W):(W.filter fun w=>!iZ w)=W:=by
 obtain⟨a,b,c,d,ws,rfl,_,_,_,_,hw⟩:=h
 have key:∀ (l:List dG) (ws:List Ws),qn l ws→(ws.filter fun w=>!iZ w)=ws:=by
  intro l
  induction l with
  |nil=>intro ws h;cases ws with
   |nil=>rfl
   |cons _ _=>exact h.elim
  |cons a l ih=>intro ws h;cases ws with
   |nil=>exact h.elim
   |cons w ws=>
    obtain⟨⟨x,y,z,rfl,_⟩,h2⟩:=h
    rw[List.filter_cons_of_pos (by simp[iZ]),ih ws h2]
 rw[List.filter_cons_of_pos (by simp[iZ]),List.filter_cons_of_pos (by simp[iZ]),List.filter_cons_of_pos (by simp[iZ]),key _ _ hw]
theorem pK {N:bc} (hR:N.Right):eg (gJ N)=(N,0,0):=by
 refine ur hR ?_
 rw[qm hR,vG (mK hR)]
 exact mK hR
end Go.Proofs.YtpbmihpjgjbndaaGreatDoor
/- A network's text with remarks, blanks and empty lines; and where a text is wrong. -/
set_option linter.unusedVariables false
set_option linter.unusedSimpArgs false
namespace Go.Proofs.YtpbmihpjgjbndaaGreatDoor
open Lib
theorem bc.Right.fits4 {N:bc} (h:N.Right):N.Fits:=by
 have h1:=h.nodes
 have h2:=h.src
 have h3:=h.snk
 have h4:=h.len
 refine⟨by unfold cL;omega,by unfold cL;omega,by unfold cL;omega,by omega,fun a ha=>?_⟩
 have h5:=h.arc a ha
 have h6:=wS h ha
 exact⟨by unfold cL;omega,by unfold cL;omega,by unfold cL;omega⟩
end Go.Proofs.YtpbmihpjgjbndaaGreatDoor
/- A session's Load, Check, Value and Print; and Solve where it errs. -/
set_option linter.unusedVariables false
set_option linter.unusedSimpArgs false
namespace Go.Proofs.YtpbmihpjgjbndaaGreatDoor
open Go.RowKit
structure cl.OK (m:cl):Prop where
 net:m.a=true→m.N.Right
 fin:∀ x∈m.f,cL x
 flen:m.f.length≤100000
 slen:m.s.length≤100000
def cl.load (m:cl) (N:bc) (A:Option Addr) (c:Nat):cl:=⟨N,[],[],true,false,false,A,c,none,0,none,0⟩
def zy (p:Nat) (m:cl) (l:List UInt8) (v:Value) (H':Heap):Prop:=
 ((eg l).2.2≠0∧v=pv ((eg l).2.1,(eg l).2.2)∧H'=d9 p m)∨
 ((eg l).2.2=0∧∃ (A:Option Addr) (c:Nat),v=pv (0,0)∧H'=d9 p (m.load (eg l).1 A c))
set_option maxHeartbeats 1000000 in
theorem xc (V:eb) (p:Nat) (m:cl) (l:List UInt8) (hl:l.length≤9999999):Fn 27 [.pointer (some ⟨p,0,none⟩),eN l] (aO (d9 p m)) (V.heap++d9 p m) (zy p m l):=by
 generalize hM:aO _=M
 refine aK Tryz.func27 rfl rfl fun w0=>?_
 refine ad (aa (ae [] rfl ?_))
 refine ad (aa (ah [] rfl ?_))
 refine ap [] (wA V l hl) rfl rfl rfl rfl (by kernel_rfl) ⟨⟨0,by simp[eb.heap],rfl⟩,⟨1,by simp[eb.heap],rfl⟩,⟨2,by simp[eb.heap],rfl⟩,trivial⟩ (fun _=>rfl) ?_
 rintro v H' ⟨A,c,rfl,rfl⟩
 refine⟨rfl,?_⟩
 refine ah [] rfl ?_
 refine bA rfl rfl rfl (fun _=>rfl) fun p6=>?_
 refine aE 0 rfl rfl rfl rfl rfl [] rfl ?_
 refine ae [] rfl ?_
 refine ad (ad (aa (ae [] rfl ?_)))
 refine aD rfl (fun hz=>?_) (fun hz=>aq ?_)
 ·refine ad (aa (ae [] rfl ?_))
  exact aC [5,6,7,8] (by decide) rfl (ay ⟨_,rfl,.inl ⟨hz,rfl,rfl⟩⟩)
 have hz:(eg l).2.2=0:=Classical.not_not.1 hz
 refine ad (aa ?_)
 refine ak (gs:=[999]) rfl ?_
 refine ab [] (v:=bn (eg l).1 A c) (af 0 rfl rfl rfl rfl) rfl ?_
 refine ab [] (be rfl rfl rfl rfl rfl rfl) rfl ?_
 refine ah [] rfl ?_
 refine aE 5 rfl rfl rfl rfl rfl [] rfl ?_
 refine ai ?_
 refine ad (aa (ae [] rfl ?_))
 refine df 3 1 ?_
 refine df 2 1 ?_
 exact aC [7,3,0,1] (by decide) rfl (ay ⟨_,rfl,.inr ⟨hz,A,c,rfl,rfl⟩⟩)
def vA (p:Nat) (m:cl) (ba bf bs:Nat):Heap:=[.seg p 0 m.cells,.seg ba 0 (arcs m.N.arcs),.seg bf 0 (az m.f),.seg bs 0 (az m.s)]
structure cl.At (m:cl) (ba bf bs:Nat):Prop where
 n:m.N.arcs≠[]→m.An=some ⟨ba,0,none⟩
 f:m.f≠[]→m.Af=some ⟨bf,0,none⟩
 s:m.s≠[]→m.As=some ⟨bs,0,none⟩
theorem tt (m:cl) (ha:m.a=true) (p:Nat) (sg:Int) (hsg:¬ (sg=112∨sg=116∨sg=115)):Fn 28 [.pointer (some ⟨p,0,none⟩),.int .u8 sg] [] [.seg p 0 m.cells] fun v H'=>v=pv (0,1)∧H'=[]:=by
 refine aK Tryz.func28 rfl rfl fun w0=>?_
 refine ad (aa (ae [] rfl ?_))
 refine ad (ad (aa (ah [] rfl ?_)))
 refine ap (fst:=[]) (cap:=[]) [] (iR m p [] (by decide) none 0 0 0 0 (fun h=>absurd rfl h) rfl) rfl rfl rfl rfl (by kernel_rfl) ⟨⟨0,_,by simp,rfl,am _ _ _,aw⟩,⟨0,_,by simp,rfl,jA,.inl rfl⟩,trivial⟩ (fun _=>rfl) ?_
 rintro v H' ⟨rfl,rfl⟩
 refine⟨rfl,?_⟩
 rw[qq ha]
 refine ae [] rfl ?_
 refine ad (aa (ae [] rfl ?_))
 refine aD rfl (fun h=>absurd rfl h) (fun _=>aq ?_)
 refine ad (ad (aa (ae [] rfl ?_)))
 refine ax (ad (ad (aa (ae [] rfl ?_))))
 refine aM 15 (v':=.bool false) rfl (congrArg Value.bool (aB (fun h=>hsg (.inl h)))) ?_
 refine bq rfl ?_
 refine aa (ae [] rfl ?_)
 refine aM 15 (v':=.bool false) rfl (congrArg Value.bool (aB (fun h=>hsg (.inr (.inl h))))) ?_
 refine bq rfl ?_
 refine ad (aa (ae [] rfl ?_))
 refine aM 32 (v':=.bool false) rfl (congrArg Value.bool (aB (fun h=>hsg (.inr (.inr h))))) ?_
 refine bq rfl ?_
 refine ad (aa (ae [] rfl ?_))
 exact aC [] (by decide) rfl (ay ⟨_,rfl,rfl,rfl⟩)
noncomputable def cl.checkZ (m:cl):Int:=if m.lack [false,true]≠0 then m.lack [false,true] else qj m.N m.f m.s
theorem y6 {m:cl} {l:List Bool} (h:m.lack l=0):m.a=true:=by
 cases ha:m.a with
 |true=>rfl
 |false=>rw[xB ha] at h;exact absurd h (by decide)
theorem kZ (m:cl) (hm:m.OK) (p ba bf bs:Nat) (hat:m.At ba bf bs):Fn 29 [.pointer (some ⟨p,0,none⟩)] [] (vA p m ba bf bs) fun v H'=>v=.int .i64 m.checkZ∧H'=[]:=by
 have hfl:=hm.flen
 refine aK Tryz.func29 rfl rfl fun w0=>?_
 refine ad (aa (ae [] rfl ?_))
 refine ad (ad (aa (ah [] rfl ?_)))
 refine bS rfl rfl rfl rfl rfl rfl rfl (fun _=>rfl) fun g=>?_
 refine ap (fst:=[]) (cap:=[]) [] (iR m p [false,true] (by decide) (some ⟨g,0,none⟩) 2 2 g 0 (fun _=>rfl) rfl) rfl rfl rfl rfl (by kernel_rfl) ⟨⟨1,_,by simp[vA],rfl,am _ _ _,aw⟩,⟨0,_,by simp,rfl,aF _ _ _ (0,0),.inr rfl⟩,trivial⟩ (fun _=>rfl) ?_
 rintro v H' ⟨rfl,rfl⟩
 refine⟨rfl,?_⟩
 refine ae [] rfl ?_
 refine ad (aa (ae [] rfl ?_))
 refine aD rfl (fun hz=>?_) (fun hz=>aq ?_)
 ·refine ad (aa (ae [] rfl ?_))
  refine aC [] (by decide) rfl (ay ⟨_,rfl,?_,rfl⟩)
  unfold cl.checkZ
  rw[if_pos hz];rfl
 have hz:m.lack [false,true]=0:=Classical.not_not.1 hz
 have hR:=hm.net (y6 hz)
 refine ad ?_
 refine bz 14 [(0,true),(1,true),(2,true),(3,true),(4,true),(5,true),(6,true),(7,true),(8,true),(9,true),(10,true),(11,true),(12,false),(13,true)] [1,2,3,4] (by kernel_rfl) (by decide) rfl ?_
 refine aH [] rfl ?_
 refine aj [] (v:=bn m.N m.An m.cn) rfl (bw (i:=0) 0 rfl rfl rfl rfl rfl) rfl ?_
 refine aH [] rfl ?_
 refine aj [] (v:=.slice m.Af m.f.length m.cf) rfl (bw (i:=4) 0 rfl rfl rfl rfl rfl) rfl ?_
 refine aH [] rfl ?_
 refine aj [] (v:=.slice m.As m.s.length m.cs) rfl (bw (i:=5) 0 rfl rfl rfl rfl rfl) rfl ?_
 refine a7 rfl ?_
 refine ap [] (tQ m.N hR.fits' hR m.An m.cn ba 0 hat.n m.f hm.fin (by omega) m.Af m.cf bf 0 hat.f m.s hm.slen m.As m.cs bs 0 hat.s) rfl rfl rfl rfl (by kernel_rfl) ⟨⟨2,_,by simp[vA],rfl,am _ _ _,aw⟩,⟨3,_,by simp[vA],rfl,am _ _ _,aw⟩,⟨4,_,by simp[vA],rfl,am _ _ _,aw⟩,trivial⟩ (fun _=>rfl) ?_
 rintro v H' ⟨rfl,rfl⟩
 refine⟨rfl,?_⟩
 refine ai ⟨⟨[1,2,3,4],by decide,rfl⟩,?_⟩
 refine aH [] rfl ?_
 refine bC ?_
 refine ai ?_
 refine aC [] (by decide) rfl (ay ⟨_,rfl,?_,rfl⟩)
 unfold cl.checkZ
 rw[if_neg (fun h=>h hz)];rfl
end Go.Proofs.YtpbmihpjgjbndaaGreatDoor
