import Derived.Test.YtmcnpaelaieniaaGreatDoorQX109
import Derived.Test.YtmcnpaelaieniaaGreatDoorQX103
import Derived.Test.YtmcnpaelaieniaaGreatDoorQX100
import Derived.Test.YtmcnpaelaieniaaGreatDoorQX91
import Derived.Test.YtmcnpaelaieniaaGreatDoorQX104
import Derived.Test.YtmcnpaelaieniaaGreatDoorQX70
import Derived.Test.YtmcnpaelaieniaaGreatDoorQX113
import Derived.Test.YtmcnpaelaieniaaGreatDoorQX67
import Derived.Test.YtmcnpaelaieniaaGreatDoorQX80
/- A part of the proof; see NOTES.md. -/
set_option linter.unusedVariables false
set_option linter.unusedSimpArgs false
namespace Go.Proofs.YtmcnpaelaieniaaGreatDoor
open Go.RowKit
open Lib
def AF(ws:Ws):Bool:=decide ((bn ws).2=0)
open Lib
abbrev cN:=LU
structure dp where
 N:aU
 f:LI
 s:LI
 a:Bool
 b:Bool
 d:Bool
def cD.sta(m:cD):dp:=⟨m.N,m.f,m.s,m.a,m.b,m.d⟩
def zp:dp:=⟨⟨0,0,0,[]⟩,[],[],false,false,false⟩
def dp.lack(q:dp)(l:LB):Int:=if q.a=false then 9 else if ∀ c∈l,(bif c then q.d else q.b)=true then 0 else 8
structure dp.OK (q:dp):Prop where
 net:q.a=true->q.N.Right
 fin:∀ x∈q.f,dn x
 sin:∀ x∈q.s,dn x
 flen:q.f.length<=100000
 slen:q.s.length<=100000
theorem C8:zp.OK:=⟨λ h=>Bool.noConfusion h,λ _ h=>absurd h GP,λ _ h=>absurd h GP,by decide,by decide⟩
theorem dp.OK.ses{m:cD}(h:m.sta.OK):m.OK:=⟨h.net,h.fin,h.flen,h.slen⟩
theorem nf{q:dp}{l:LB}(h:q.lack l=0):q.a=true:=by
 cases ha:q.a with
 |true=>rfl
 |false=>unfold dp.lack at h;rw[if_pos ha] at h;exact absurd h (by decide)
def xp:List cN:=[[111,107]]
def gZ:List cN:=[[119,114,111,110,103]]
def td:cN:=[101,114,114,111,114]
def oo:cN:=[118,97,108,117,101]
def oU(e:Int):List cN:=[fF td [e]]
def ex(e:Int)(l:List cN):List cN:=if e≠0 then oU e else l
open Classical in
noncomputable def dp.valZ(q:dp):Int×Int:=if q.lack [false]≠0 then (0,q.lack [false]) else if aK q.N q.f then (cS (q.N.arcs.zip q.f) q.N.snk,0) else (0,en q.N q.f)
noncomputable def dp.checkZ(q:dp):Int:=if q.lack [false,true]≠0 then q.lack [false,true] else oI q.N q.f q.s
open Classical in
noncomputable def dp.repZ(q:dp):cN×Int:=if q.lack [false,true]≠0 then ([],q.lack [false,true]) else
 if aK q.N q.f then (if e8 q.N q.s then (Ge q.f q.s (cS (q.N.arcs.zip q.f) q.N.snk) (eL q.s q.N.arcs),0) else ([],nQ q.N q.s)) else ([],en q.N q.f)
def dp.printZ(q:dp):cN×Int:=if q.lack []≠0 then ([],q.lack []) else (iM q.N,0)
open Classical in
noncomputable def dp.itemsZ(q:dp):List It×Int:=if q.lack [false]≠0 then ([],q.lack [false]) else if aK q.N q.f then (mz q.N q.f,0) else ([],en q.N q.f)
noncomputable def dp.itemsT(q:dp):List cN:=if q.itemsZ.2≠0 then oU q.itemsZ.2 else ex (l5 q.N q.itemsZ.1) (aT (Proofs.YtmcnpaelaieniaaGreatDoor.cY q.N q.itemsZ.1))
def EN(N:aU)(v p k:Int):List cN:=[join [fF oo [v],fF [112,104,97,115,101,115] [p],fF [119,97,108,107,115] [k],fF [98,111,117,110,100] [EX N]] [32]]
def dp.countR(q:dp)(o:List cN):Prop:=(q.lack []≠0/\o=oU (q.lack []))\/(q.lack []=0/\∃ (f:LI) (p k:Nat),Dn q.N 1 (List.replicate q.N.arcs.length 0) p k f/\o=EN q.N (cS (q.N.arcs.zip f) q.N.snk) p k)
def AX:LI->List Fu
 |a::b::l=>⟨a,b⟩::AX l
 |_=>[]
def BQ(l:LI):Gr:=⟨l.getD 0 0,l.getD 1 0,AX (l.drop 2)⟩
def EL(ws:Ws)(o:List cN):Prop:=
 if ws.length<3\/(ws.getD 0 []).length≠1\/(bn (ws.drop 1)).2≠0\/(bn (ws.drop 1)).1.length%2≠0 then o=gZ else
 ∃ (e:Int) (l sl sr:LI),FM (BQ (bn (ws.drop 1)).1) (((ws.getD 0 []).getD 0 0).toNat:Int) e l/\(e=0->FW (BQ (bn (ws.drop 1)).1) l sl sr)/\(e≠0->sl=[]/\sr=[])/\sl.length<=200/\sr.length<=200/\l.length<=1500/\
   o=ex e [fF [112,97,105,114,115] l,fF [108,101,102,116] sl,fF [114,105,103,104,116] sr]
def fg(q:dp)(t:cN)(w:cN)(o:List cN)(q':dp)(t':cN):Prop:=
 if w=[108,111,97,100] then t'=[]/\(((bW t).2.2≠0/\q'=q/\o=[fF [108,105,110,101] [((bW t).2.1:Int)]++[32]++fF td [(bW t).2.2]])\/((bW t).2.2=0/\q'=⟨(bW t).1,[],[],true,false,false⟩/\o=xp))
 else q'=q/\t'=t/\(
  if w=[99,104,101,99,107] then o=ex q.checkZ xp
  else if w=oo then o=ex q.valZ.2 [fF oo [q.valZ.1]]
  else if w=[105,116,101,109,115] then o=q.itemsT
  else if w=[114,101,112,111,114,116] then o=ex q.repZ.2 (aT q.repZ.1)
  else if w=[112,114,105,110,116] then o=ex q.printZ.2 (aT q.printZ.1)
  else if w=[99,111,117,110,116] then q.countR o
  else o=gZ)
def hZ(q:dp)(sg:Int)(o:List cN)(q':dp):Prop:=
 if q.lack []≠0 then q'=q/\o=oU (q.lack []) else
 if sg=112\/sg=116\/sg=115 then ∃ f s:LI,nV q.N sg f/\nI q.N f s/\q'=⟨q.N,f,s,q.a,true,true⟩/\o=[fF oo [cS (q.N.arcs.zip f) q.N.snk]]
 else q'=q/\o=oU 1
def uz(q:dp)(l:LI)(o:List cN)(q':dp):Prop:=
 if q.lack []≠0 then q'=q/\o=oU (q.lack []) else if l.length≠q.N.arcs.length then q'=q/\o=oU 6 else q'=⟨q.N,l,q.s,q.a,true,q.d⟩/\o=xp
def ug(q:dp)(l:LI)(o:List cN)(q':dp):Prop:=
 if q.lack []≠0 then q'=q/\o=oU (q.lack []) else q'=⟨q.N,q.f,l,q.a,q.b,true⟩/\o=xp
def kC(line:cN):cN:=((line.dropWhile (·≠124)).drop 1).drop 1
def r5(q:dp)(t line:cN)(w:cN)(ws:Ws)(o:List cN)(q':dp)(t':cN):Prop:=
 if w=[124] then q'=q/\t'=t++(kC line++[10])/\o=[]
 else if w=[102,108,111,119] then t'=t/\(if (bn ws).2=0 then uz q (bn ws).1 o q' else q'=q/\o=gZ)
 else if w=[99,117,116] then t'=t/\(if (bn ws).2=0 then ug q (bn ws).1 o q' else q'=q/\o=gZ)
 else if w=[115,111,108,118,101] then t'=t/\(if ws.length=1/\(ws.getD 0 []).length=1 then hZ q (((ws.getD 0 []).getD 0 0).toNat:Int) o q' else q'=q/\o=gZ)
 else if w=[112,97,105,114,115] then t'=t/\q'=q/\EL ws o
 else if ws=[] then fg q t w o q' t' else q'=q/\t'=t/\o=gZ
def dS(q:dp)(t line:cN)(o:List cN)(q':dp)(t':cN):Prop:=match bw line with
 |[]=>q'=q/\t'=t/\o=[]
 |w::ws=>if w.head?=some 35 then q'=q/\t'=t/\o=[] else r5 q t line w ws o q' t'
def iS:dp->cN->List cN->List (List cN)->dp->cN->Prop
 |q,t,[],os,q',t'=>os=[]/\q'=q/\t'=t
 |q,t,l::ls,os,q',t'=>∃ o os1 q1 t1,dS q t l o q1 t1/\iS q1 t1 ls os1 q' t'/\os=o::os1
theorem rB:∀ {ls ms:List cN} {q:dp} {t:cN} {os:List (List cN)} {q1:dp} {t1:cN} {ps:List (List cN)} {q2:dp} {t2:cN},iS q t ls os q1 t1->iS q1 t1 ms ps q2 t2->iS q t (ls++ms) (os++ps) q2 t2
 |[],ms,_,_,_,_,_,_,_,_,⟨rfl,rfl,rfl⟩,h=>h
 |l::ls,ms,_,_,_,_,_,_,_,_,⟨o,os1,q1,t1,h1,h2,rfl⟩,h=>⟨o,_,q1,t1,h1,rB h2 h,rfl⟩
theorem qE{ls:List cN}{q:dp}{t:cN}{os:List (List cN)}{q1:dp}{t1:cN}{l:cN}{o:List cN}{q2:dp}{t2:cN}(h:iS q t ls os q1 t1)(h2:dS q1 t1 l o q2 t2):iS q t (ls++[l]) (os++[o]) q2 t2:=
 rB h ⟨o,[],q2,t2,h2,⟨rfl,rfl,rfl⟩,rfl⟩
open Lib
theorem xy:∀ ws:Ws,(bn ws).1.length<=ws.length
 |[]=>GB _
 |w::r=>by
  have ih:=xy r;unfold bn;split
  ·exact GB _
  ·split
   ·exact GB _
   ·simp only[Gz];omega
theorem getD_in{l:LI}(h:∀ n∈l,dn n)(i:Nat):dn (l.getD i 0):=by
 rw[Gw]
 cases hx:l[i]? with
 |none=>unfold dn;show _<=(0:Int)/\(0:Int)<=_;omega
 |some x=>exact h x (Gu hx)
theorem hZ.ok{q:dp}(hq:q.OK){sg:Int}{o:List cN}{q1:dp}(h:hZ q sg o q1):q1.OK:=by
 unfold hZ at h;split at h
 ·rw[h.1];exact hq
 ·rename_i c;split at h
  ·obtain⟨f,s,h1,h2,rfl,_⟩:=h;have ha:=nf (GK.1 c);have hR:=hq.net ha;have hm:=h1.max hR;have hc:=h2.cut hR hm;have hl:=hR.len;have hn:=hR.nodes;have hfl:=hm.1.len;exact⟨λ _=>hR,aK.inB hR hm.1.toRanged,λ x hx=>by have:=hc.1.rng x hx;unfold dn;omega,by show f.length<=_;omega,by show s.length<=_;omega⟩
  ·rw[h.1];exact hq
theorem uz.ok{q:dp}(hq:q.OK){l:LI}(hi:∀ x∈l,dn x)(hl:l.length<=100000){o:List cN}{q1:dp}(h:uz q l o q1):q1.OK:=by
 unfold uz at h;split at h
 ·rw[h.1];exact hq
 ·split at h
  ·rw[h.1];exact hq
  ·rw[h.1];exact⟨hq.net,hi,hq.sin,hl,hq.slen⟩
theorem ug.ok{q:dp}(hq:q.OK){l:LI}(hi:∀ x∈l,dn x)(hl:l.length<=100000){o:List cN}{q1:dp}(h:ug q l o q1):q1.OK:=by
 unfold ug at h;split at h
 ·rw[h.1];exact hq
 ·rw[h.1];exact⟨hq.net,hq.fin,hi,hq.flen,hl⟩
theorem fg.ok{q:dp}(hq:q.OK){t w:cN}{o:List cN}{q1:dp}{t1:cN}(h:fg q t w o q1 t1):q1.OK:=by
 unfold fg at h;split at h
 ·obtain⟨_,⟨_,rfl,_⟩|⟨hz,rfl,_⟩⟩:=h
  ·exact hq
  ·exact⟨λ _=>(oA hz).1,λ _ h=>absurd h GP,λ _ h=>absurd h GP,GB _,GB _⟩
 ·rw[h.1];exact hq
theorem r5.ok{q:dp}(hq:q.OK){t line w:cN}{ws:Ws}(hl:ws.length<=3000){o:List cN}{q1:dp}{t1:cN}(h:r5 q t line w ws o q1 t1):q1.OK:=by
 have hn:=xy ws;unfold r5 at h;split at h
 ·rw[h.1];exact hq
 split at h
 ·obtain⟨_,h⟩:=h;split at h
  ·exact uz.ok hq nq (by omega) h
  ·rw[h.1];exact hq
 split at h
 ·obtain⟨_,h⟩:=h;split at h
  ·exact ug.ok hq nq (by omega) h
  ·rw[h.1];exact hq
 split at h
 ·obtain⟨_,h⟩:=h;split at h
  ·exact hZ.ok hq h
  ·rw[h.1];exact hq
 split at h
 ·rw[h.2.1];exact hq
 split at h
 ·exact fg.ok hq h
 ·rw[h.1];exact hq
theorem dS.ok{q:dp}(hq:q.OK){t line:cN}(hl:line.length<=3000){o:List cN}{q1:dp}{t1:cN}(h:dS q t line o q1 t1):q1.OK:=by
 have hw:=mK line;unfold dS at h
 cases hc:bw line with
 |nil=>rw[hc] at h;rw[h.1];exact hq
 |cons w ws=>
  rw[hc] at h hw;simp only at h;split at h
  ·rw[h.1];exact hq
  ·exact r5.ok hq (by rw[Gz] at hw;omega) h
theorem tB(line:cN):(kC line).length<=line.length:=by
 unfold kC;rw[Ht,Ht];have:=(List.dropWhile_sublist (l:=line) (λ b:UInt8=>decide (b≠124))).length_le;omega
theorem dS.txt{q:dp}{t line:cN}{o:List cN}{q1:dp}{t1:cN}(h:dS q t line o q1 t1):t1.length<=t.length+line.length+1:=by
 have hr:=tB line;unfold dS at h
 cases hc:bw line with
 |nil=>rw[hc] at h;rw[h.2.1];omega
 |cons w ws=>
  rw[hc] at h;simp only at h;split at h
  ·rw[h.2.1];omega
  unfold r5 at h;split at h
  ·rw[h.2.1];simp only[Gx,Gz,GQ];omega
  split at h
  ·rw[h.1];omega
  split at h
  ·rw[h.1];omega
  split at h
  ·rw[h.1];omega
  split at h
  ·rw[h.1];omega
  split at h
  ·unfold fg at h;split at h
   ·rw[h.1];simp
   ·rw[h.2.1];omega
  ·rw[h.2.1];omega
open Lib
open Lib
theorem AI(N:aU)(hF:N.Fits)(l:List dI)(h:∀ a∈l,a∈N.arcs):((l.map nT).flatten).length<=l.length*70:=by
 induction l with
 |nil=>simp
 |cons a l ih=>
  have h1:=hF.arc a (h a (by simp));have h2:=ih λ x hx=>h x (by simp[hx]);have h3:=ef [97] [a.fr,a.to,a.cap] (λ n hn=>by simp at hn;rcases hn with rfl|rfl|rfl;exact h1.1;exact h1.2.1;exact h1.2.2);simp only[GG,HR,Gx,Gz,nT,GQ] at*;omega
theorem Ap(N:aU)(hF:N.Fits):(iy N).length<=400:=by
 have hl:dn (N.arcs.length:Int):=by have:=hF.len;unfold dn;omega
 have h1:=ef [112,32,109,97,120] [N.nodes,N.arcs.length] (λ n hn=>by simp at hn;rcases hn with rfl|rfl;exact hF.nodes;exact hl);have hws:=ef [110] [N.src] (λ n hn=>by simp at hn;subst hn;exact hF.src);have hwt:=ef [110] [N.snk] (λ n hn=>by simp at hn;subst hn;exact hF.snk);unfold iy;simp only[Gx,Gz,GQ] at*;omega
end Go.Proofs.YtmcnpaelaieniaaGreatDoor
