import Derived.Test.YtmcnpaelaieniaaGreatDoorQX110
import Derived.Test.YtmcnpaelaieniaaGreatDoorQX105
import Derived.Test.YtmcnpaelaieniaaGreatDoorQX102
import Derived.Test.YtmcnpaelaieniaaGreatDoorQX93
import Derived.Test.YtmcnpaelaieniaaGreatDoorQX106
import Derived.Test.YtmcnpaelaieniaaGreatDoorQX71
import Derived.Test.YtmcnpaelaieniaaGreatDoorQX115
import Derived.Test.YtmcnpaelaieniaaGreatDoorQX68
import Derived.Test.YtmcnpaelaieniaaGreatDoorQX82
/- A part of the proof; see NOTES.md. -/
set_option linter.unusedVariables false
set_option linter.unusedSimpArgs false
namespace Go.Proofs.YtmcnpaelaieniaaGreatDoor
open Go.RowKit
open Lib
def Ah(ws:Ws):Bool:=decide ((bo ws).2=0)
open Lib
abbrev cR:=LU
structure du where
 N:aO
 f:LI
 s:LI
 a:Bool
 b:Bool
 d:Bool
def cF.sta(m:cF):du:=⟨m.N,m.f,m.s,m.a,m.b,m.d⟩
def zw:du:=⟨⟨0,0,0,[]⟩,[],[],false,false,false⟩
def du.lack(q:du)(l:LB):Int:=if q.a=false then 9 else if ∀ c∈l,(bif c then q.d else q.b)=true then 0 else 8
structure du.OK (q:du):Prop where
 net:q.a=true->q.N.Right
 fin:∀ x∈q.f,bU x
 sin:∀ x∈q.s,bU x
 flen:q.f.length<=100000
 slen:q.s.length<=100000
theorem C8:zw.OK:=⟨λ h=>Bool.noConfusion h,λ _ h=>absurd h GV,λ _ h=>absurd h GV,by decide,by decide⟩
theorem du.OK.ses{m:cF}(h:m.sta.OK):m.OK:=⟨h.net,h.fin,h.flen,h.slen⟩
theorem mB{q:du}{l:LB}(h:q.lack l=0):q.a=true:=by
 cases ha:q.a with
 |true=>rfl
 |false=>unfold du.lack at h;rw[if_pos ha] at h;exact absurd h (by decide)
def w5:List cR:=[[111,107]]
def gT:List cR:=[[119,114,111,110,103]]
def sy:cR:=[101,114,114,111,114]
def nP:cR:=[118,97,108,117,101]
def oK(e:Int):List cR:=[fH sy [e]]
def ey(e:Int)(l:List cR):List cR:=if e≠0 then oK e else l
open Classical in
noncomputable def du.valZ(q:du):Int×Int:=if q.lack [false]≠0 then (0,q.lack [false]) else if aK q.N q.f then (da (q.N.arcs.zip q.f) q.N.snk,0) else (0,el q.N q.f)
noncomputable def du.checkZ(q:du):Int:=if q.lack [false,true]≠0 then q.lack [false,true] else ou q.N q.f q.s
open Classical in
noncomputable def du.repZ(q:du):cR×Int:=if q.lack [false,true]≠0 then ([],q.lack [false,true]) else
 if aK q.N q.f then (if fu q.N q.s then (Gp q.f q.s (da (q.N.arcs.zip q.f) q.N.snk) (jb q.s q.N.arcs),0) else ([],nQ q.N q.s)) else ([],el q.N q.f)
def du.printZ(q:du):cR×Int:=if q.lack []≠0 then ([],q.lack []) else (iK q.N,0)
open Classical in
noncomputable def du.itemsZ(q:du):List It×Int:=if q.lack [false]≠0 then ([],q.lack [false]) else if aK q.N q.f then (mn q.N q.f,0) else ([],el q.N q.f)
noncomputable def du.itemsT(q:du):List cR:=if q.itemsZ.2≠0 then oK q.itemsZ.2 else ey (mu q.N q.itemsZ.1) (aP (Proofs.YtmcnpaelaieniaaGreatDoor.c9 q.N q.itemsZ.1))
def Fc(N:aO)(v p k:Int):List cR:=[join [fH nP [v],fH [112,104,97,115,101,115] [p],fH [119,97,108,107,115] [k],fH [98,111,117,110,100] [jf N]] [32]]
def du.countR(q:du)(o:List cR):Prop:=(q.lack []≠0/\o=oK (q.lack []))\/(q.lack []=0/\∃ (f:LI) (p k:Nat),Dn q.N 1 (List.replicate q.N.arcs.length 0) p k f/\o=Fc q.N (da (q.N.arcs.zip f) q.N.snk) p k)
def AQ:LI->List FB
 |a::b::l=>⟨a,b⟩::AQ l
 |_=>[]
def Br(l:LI):Gr:=⟨l.getD 0 0,l.getD 1 0,AQ (l.drop 2)⟩
def Eo(ws:Ws)(o:List cR):Prop:=
 if ws.length<3\/(ws.getD 0 []).length≠1\/(bo (ws.drop 1)).2≠0\/(bo (ws.drop 1)).1.length%2≠0 then o=gT else
 ∃ (e:Int) (l sl sr:LI),FR (Br (bo (ws.drop 1)).1) (((ws.getD 0 []).getD 0 0).toNat:Int) e l/\(e=0->Gj (Br (bo (ws.drop 1)).1) l sl sr)/\(e≠0->sl=[]/\sr=[])/\sl.length<=200/\sr.length<=200/\l.length<=1500/\
   o=ey e [fH [112,97,105,114,115] l,fH [108,101,102,116] sl,fH [114,105,103,104,116] sr]
def fd(q:du)(t:cR)(w:cR)(o:List cR)(q':du)(t':cR):Prop:=
 if w=[108,111,97,100] then t'=[]/\(((bW t).2.2≠0/\q'=q/\o=[fH [108,105,110,101] [((bW t).2.1:Int)]++[32]++fH sy [(bW t).2.2]])\/((bW t).2.2=0/\q'=⟨(bW t).1,[],[],true,false,false⟩/\o=w5))
 else q'=q/\t'=t/\(
  if w=[99,104,101,99,107] then o=ey q.checkZ w5
  else if w=nP then o=ey q.valZ.2 [fH nP [q.valZ.1]]
  else if w=[105,116,101,109,115] then o=q.itemsT
  else if w=[114,101,112,111,114,116] then o=ey q.repZ.2 (aP q.repZ.1)
  else if w=[112,114,105,110,116] then o=ey q.printZ.2 (aP q.printZ.1)
  else if w=[99,111,117,110,116] then q.countR o
  else o=gT)
def gZ(q:du)(sg:Int)(o:List cR)(q':du):Prop:=
 if q.lack []≠0 then q'=q/\o=oK (q.lack []) else
 if sg=112\/sg=116\/sg=115 then ∃ f s:LI,qr q.N sg f/\od q.N f s/\q'=⟨q.N,f,s,q.a,true,true⟩/\o=[fH nP [da (q.N.arcs.zip f) q.N.snk]]
 else q'=q/\o=oK 1
def tf(q:du)(l:LI)(o:List cR)(q':du):Prop:=
 if q.lack []≠0 then q'=q/\o=oK (q.lack []) else if l.length≠q.N.arcs.length then q'=q/\o=oK 6 else q'=⟨q.N,l,q.s,q.a,true,q.d⟩/\o=w5
def tw(q:du)(l:LI)(o:List cR)(q':du):Prop:=
 if q.lack []≠0 then q'=q/\o=oK (q.lack []) else q'=⟨q.N,q.f,l,q.a,q.b,true⟩/\o=w5
def kx(line:cR):cR:=((line.dropWhile (·≠124)).drop 1).drop 1
def sw(q:du)(t line:cR)(w:cR)(ws:Ws)(o:List cR)(q':du)(t':cR):Prop:=
 if w=[124] then q'=q/\t'=t++(kx line++[10])/\o=[]
 else if w=[102,108,111,119] then t'=t/\(if (bo ws).2=0 then tf q (bo ws).1 o q' else q'=q/\o=gT)
 else if w=[99,117,116] then t'=t/\(if (bo ws).2=0 then tw q (bo ws).1 o q' else q'=q/\o=gT)
 else if w=[115,111,108,118,101] then t'=t/\(if ws.length=1/\(ws.getD 0 []).length=1 then gZ q (((ws.getD 0 []).getD 0 0).toNat:Int) o q' else q'=q/\o=gT)
 else if w=[112,97,105,114,115] then t'=t/\q'=q/\Eo ws o
 else if ws=[] then fd q t w o q' t' else q'=q/\t'=t/\o=gT
def dW(q:du)(t line:cR)(o:List cR)(q':du)(t':cR):Prop:=match bw line with
 |[]=>q'=q/\t'=t/\o=[]
 |w::ws=>if w.head?=some 35 then q'=q/\t'=t/\o=[] else sw q t line w ws o q' t'
def iU:du->cR->List cR->List (List cR)->du->cR->Prop
 |q,t,[],os,q',t'=>os=[]/\q'=q/\t'=t
 |q,t,l::ls,os,q',t'=>∃ o os1 q1 t1,dW q t l o q1 t1/\iU q1 t1 ls os1 q' t'/\os=o::os1
theorem rv:∀ {ls ms:List cR} {q:du} {t:cR} {os:List (List cR)} {q1:du} {t1:cR} {ps:List (List cR)} {q2:du} {t2:cR},iU q t ls os q1 t1->iU q1 t1 ms ps q2 t2->iU q t (ls++ms) (os++ps) q2 t2
 |[],ms,_,_,_,_,_,_,_,_,⟨rfl,rfl,rfl⟩,h=>h
 |l::ls,ms,_,_,_,_,_,_,_,_,⟨o,os1,q1,t1,h1,h2,rfl⟩,h=>⟨o,_,q1,t1,h1,rv h2 h,rfl⟩
theorem qo{ls:List cR}{q:du}{t:cR}{os:List (List cR)}{q1:du}{t1:cR}{l:cR}{o:List cR}{q2:du}{t2:cR}(h:iU q t ls os q1 t1)(h2:dW q1 t1 l o q2 t2):iU q t (ls++[l]) (os++[o]) q2 t2:=
 rv h ⟨o,[],q2,t2,h2,⟨rfl,rfl,rfl⟩,rfl⟩
open Lib
theorem wU:∀ ws:Ws,(bo ws).1.length<=ws.length
 |[]=>GI _
 |w::r=>by
  have ih:=wU r;unfold bo;split
  ·exact GI _
  ·split
   ·exact GI _
   ·simp only[GG];omega
theorem getD_in{l:LI}(h:∀ n∈l,bU n)(i:Nat):bU (l.getD i 0):=by
 rw[GD]
 cases hx:l[i]? with
 |none=>unfold bU;show _<=(0:Int)/\(0:Int)<=_;omega
 |some x=>exact h x (GB hx)
theorem gZ.ok{q:du}(hq:q.OK){sg:Int}{o:List cR}{q1:du}(h:gZ q sg o q1):q1.OK:=by
 unfold gZ at h;split at h
 ·rw[h.1];exact hq
 ·rename_i c;split at h
  ·obtain⟨f,s,h1,h2,rfl,_⟩:=h;have ha:=mB (GQ.1 c);have hR:=hq.net ha;have hm:=h1.max hR;have hc:=h2.cut hR hm;have hl:=hR.len;have hn:=hR.nodes;have hfl:=hm.1.len;exact⟨λ _=>hR,aK.inB hR hm.1.toRanged,λ x hx=>by have:=hc.1.rng x hx;unfold bU;omega,by show f.length<=_;omega,by show s.length<=_;omega⟩
  ·rw[h.1];exact hq
theorem tf.ok{q:du}(hq:q.OK){l:LI}(hi:∀ x∈l,bU x)(hl:l.length<=100000){o:List cR}{q1:du}(h:tf q l o q1):q1.OK:=by
 unfold tf at h;split at h
 ·rw[h.1];exact hq
 ·split at h
  ·rw[h.1];exact hq
  ·rw[h.1];exact⟨hq.net,hi,hq.sin,hl,hq.slen⟩
theorem tw.ok{q:du}(hq:q.OK){l:LI}(hi:∀ x∈l,bU x)(hl:l.length<=100000){o:List cR}{q1:du}(h:tw q l o q1):q1.OK:=by
 unfold tw at h;split at h
 ·rw[h.1];exact hq
 ·rw[h.1];exact⟨hq.net,hq.fin,hi,hq.flen,hl⟩
theorem fd.ok{q:du}(hq:q.OK){t w:cR}{o:List cR}{q1:du}{t1:cR}(h:fd q t w o q1 t1):q1.OK:=by
 unfold fd at h;split at h
 ·obtain⟨_,⟨_,rfl,_⟩|⟨hz,rfl,_⟩⟩:=h
  ·exact hq
  ·exact⟨λ _=>(th hz).1,λ _ h=>absurd h GV,λ _ h=>absurd h GV,GI _,GI _⟩
 ·rw[h.1];exact hq
theorem sw.ok{q:du}(hq:q.OK){t line w:cR}{ws:Ws}(hl:ws.length<=3000){o:List cR}{q1:du}{t1:cR}(h:sw q t line w ws o q1 t1):q1.OK:=by
 have hn:=wU ws;unfold sw at h;split at h
 ·rw[h.1];exact hq
 split at h
 ·obtain⟨_,h⟩:=h;split at h
  ·exact tf.ok hq nc (by omega) h
  ·rw[h.1];exact hq
 split at h
 ·obtain⟨_,h⟩:=h;split at h
  ·exact tw.ok hq nc (by omega) h
  ·rw[h.1];exact hq
 split at h
 ·obtain⟨_,h⟩:=h;split at h
  ·exact gZ.ok hq h
  ·rw[h.1];exact hq
 split at h
 ·rw[h.2.1];exact hq
 split at h
 ·exact fd.ok hq h
 ·rw[h.1];exact hq
theorem dW.ok{q:du}(hq:q.OK){t line:cR}(hl:line.length<=3000){o:List cR}{q1:du}{t1:cR}(h:dW q t line o q1 t1):q1.OK:=by
 have hw:=na line;unfold dW at h
 cases hc:bw line with
 |nil=>rw[hc] at h;rw[h.1];exact hq
 |cons w ws=>
  rw[hc] at h hw;simp only at h;split at h
  ·rw[h.1];exact hq
  ·exact sw.ok hq (by rw[GG] at hw;omega) h
theorem tF(line:cR):(kx line).length<=line.length:=by
 unfold kx;rw[HG,HG];have:=(List.dropWhile_sublist (l:=line) (λ b:UInt8=>decide (b≠124))).length_le;omega
theorem dW.txt{q:du}{t line:cR}{o:List cR}{q1:du}{t1:cR}(h:dW q t line o q1 t1):t1.length<=t.length+line.length+1:=by
 have hr:=tF line;unfold dW at h
 cases hc:bw line with
 |nil=>rw[hc] at h;rw[h.2.1];omega
 |cons w ws=>
  rw[hc] at h;simp only at h;split at h
  ·rw[h.2.1];omega
  unfold sw at h;split at h
  ·rw[h.2.1];simp only[GE,GG,GX];omega
  split at h
  ·rw[h.1];omega
  split at h
  ·rw[h.1];omega
  split at h
  ·rw[h.1];omega
  split at h
  ·rw[h.1];omega
  split at h
  ·unfold fd at h;split at h
   ·rw[h.1];simp
   ·rw[h.2.1];omega
  ·rw[h.2.1];omega
open Lib
open Lib
theorem B5(N:aO)(hF:N.Fits)(l:List dM)(h:∀ a∈l,a∈N.arcs):((l.map nT).flatten).length<=l.length*70:=by
 induction l with
 |nil=>simp
 |cons a l ih=>
  have h1:=hF.arc a (h a (by simp));have h2:=ih λ x hx=>h x (by simp[hx]);have h3:=ef [97] [a.fr,a.to,a.cap] (λ n hn=>by simp at hn;rcases hn with rfl|rfl|rfl;exact h1.1;exact h1.2.1;exact h1.2.2);simp only[GM,HX,GE,GG,nT,GX] at*;omega
theorem B7(N:aO)(hF:N.Fits):(iM N).length<=400:=by
 have hl:bU (N.arcs.length:Int):=by have:=hF.len;unfold bU;omega
 have h1:=ef [112,32,109,97,120] [N.nodes,N.arcs.length] (λ n hn=>by simp at hn;rcases hn with rfl|rfl;exact hF.nodes;exact hl);have hws:=ef [110] [N.src] (λ n hn=>by simp at hn;subst hn;exact hF.src);have hwt:=ef [110] [N.snk] (λ n hn=>by simp at hn;subst hn;exact hF.snk);unfold iM;simp only[GE,GG,GX] at*;omega
end Go.Proofs.YtmcnpaelaieniaaGreatDoor
