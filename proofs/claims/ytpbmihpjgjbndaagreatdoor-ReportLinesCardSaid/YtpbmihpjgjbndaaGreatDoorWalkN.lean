/- The search for blocking walks, step by step. -/
import Derived.Test.YtpbmihpjgjbndaaGreatDoorLeadN
set_option linter.unusedVariables false
set_option linter.unusedSimpArgs false
namespace Go.Proofs.YtpbmihpjgjbndaaGreatDoor
open Go.RowKit
def pu (N:a8) (A:Option Addr) (c:Nat) (Ar:Option Addr) (cr:Nat) (least:Int) (gl n:Nat) (Aw:Option Addr) (nw cw:Nat):List Value:=
 [.int .i64 N.nodes,.int .i64 N.src,.int .i64 N.snk,.slice A N.arcs.length c,.slice Ar (2*N.arcs.length) cr,.int .i64 least,.slice (some ⟨gl,0,none⟩) (n+1) (n+1),.slice Aw nw cw]
def bL (W:List Nat):List Value:=ap (W.map fun (i:Nat)=>(i:Int))
theorem dh {W:List Nat} {k r:Nat} (h:W[k]?=some r):(bL W)[k]?=some (.int .i64 (r:Int)):=b8 (by rw[List.getElem?_map,h];rfl)
theorem dF (W:List Nat):(bL W).length=W.length:=by unfold bL;rw[bB,List.length_map]
theorem i6 {W:List Nat} (h:W≠[]):bL W≠[]:=fun h0=>h (List.length_eq_zero_iff.1 (by have:=dF W;rw[h0] at this;exact this.symm))
theorem lu (W:List Nat) (r:Nat):bL W++ap [(r:Int)]=bL (W++[r]):=by simp[bL,ap]
theorem oN (N:a8) (hR:N.Right) (A:Option Addr) (c b o:Nat) (hA:N.arcs≠[]→A=some ⟨b,o,none⟩) (pw:Nat) (Ar:Option Addr) (cr:Nat) (least:Int) (gl n:Nat) (W:List Nat) (hW:∀ r∈W,r<2*N.arcs.length) (hWl:W.length≤1000) (Aw:Option Addr) (cw gw:Nat) (hAw:W≠[]→Aw=some ⟨gw,0,none⟩):
 Fn 241 [.pointer (some ⟨pw,0,none⟩)] [] [.seg pw 0 (pu N A c Ar cr least gl n Aw W.length cw),.seg b o (arcs N.arcs),.seg gw 0 (bL W)] fun v H'=>v=.int .i64 (cq N W:Nat)∧H'=[]:=by
 have hsr:=hR.src
 refine aS Tryz.func241 rfl rfl fun w0=>?_
 refine ad (aa (ae [] rfl ?_))
 refine ad (ad (aa (ah [] rfl ?_)))
 refine ab [] (bz (i:=7) (v:=.slice Aw W.length cw) 0 rfl rfl rfl rfl rfl) rfl ?_
 refine ae [] rfl ?_
 refine aC rfl (fun h0=>?_) (fun h0=>av ?_)
 ·obtain rfl:W=[]:=List.length_eq_zero_iff.1 (by omega)
  refine ad (aa (ah [] rfl ?_))
  refine ab [] (bz (i:=1) (v:=.int .i64 N.src) 0 rfl rfl rfl rfl rfl) rfl ?_
  refine ae [] rfl ?_
  refine aE [] (by decide) rfl (aB ⟨_,rfl,congrArg (Value.int .i64) ?_,rfl⟩)
  show N.src=((N.src.toNat:Nat):Int)
  omega
 ·have hpos:0<W.length:=by omega
  obtain⟨r,hr⟩:∃ r,W[W.length-1]?=some r:=⟨W[W.length-1]'(by omega),List.getElem?_eq_getElem (by omega)⟩
  obtain rfl:=hAw (by rintro rfl;simp at hpos)
  have hrl:=hW r (List.mem_of_getElem? hr)
  have hlast:W.getLast?=some r:=by rw[List.getLast?_eq_getElem?];exact hr
  have hte:=fu hR hrl
  refine ad ?_
  refine bp 22 [(0,true),(1,true),(2,true),(3,true),(4,true),(5,true),(6,true),(7,true),(8,true),(9,true),(10,true),(11,true),(12,true),(13,true),(14,true),(15,true),(16,false),(17,true),(18,true),(19,true),(20,true),(21,true)] [0,1,2] (by kernel_rfl) (by decide) rfl ?_
  refine aF [] rfl ?_
  refine aj [] rfl (bz (i:=0) (v:=bu N A c) 0 rfl rfl rfl rfl rfl) rfl ?_
  refine aF [] rfl ?_
  refine aj [] rfl (bz (i:=7) (v:=.slice (some ⟨gw,0,none⟩) W.length cw) 0 rfl rfl rfl rfl rfl) rfl ?_
  refine aF [] rfl ?_
  refine aj [] rfl (bz (i:=7) (v:=.slice (some ⟨gw,0,none⟩) W.length cw) 0 rfl rfl rfl rfl rfl) rfl ?_
  refine aF [] rfl ?_
  refine cE 30 (v':=.int .i64 ((W.length-1:Nat):Int)) rfl (congrArg (Value.int .i64) ((bU (by omega)).trans (by omega))) ?_
  refine aj [] rfl (aJ rfl rfl rfl rfl rfl (by omega)) rfl ?_
  refine aj [] rfl (bz (i:=W.length-1) 2 rfl rfl rfl (Nat.zero_add _).symm (dh hr)) rfl ?_
  refine a6 rfl ?_
  refine ax [] (e6 N A c b o hA hR.len r hrl) rfl rfl rfl rfl (by kernel_rfl) ⟨⟨1,_,by simp,rfl,aq _ _ _,ay⟩,trivial⟩ (fun _=>rfl) ?_
  rintro v H' ⟨rfl,rfl⟩
  refine⟨rfl,ai ⟨⟨[0,1,2],by decide,rfl⟩,?_⟩⟩
  refine dW [] rfl ?_
  refine ai ?_
  refine ad (aa (ae [] rfl ?_))
  refine aE [] (by decide) rfl (aB ⟨_,rfl,congrArg (Value.int .i64) ?_,rfl⟩)
  rw[hte.1]
  unfold cq
  rw[hlast]
structure u7 (rows:List eu) (gv:Nat→Nat) (pos:List Nat) (vals:List Value):Prop where
 len:vals.length=rows.length
 at_:∀ (v:Nat) (row:eu) (q:Nat),rows[v]?=some row→pos[v]?=some q→∃ A' c',vals[v]?=some (.slice A' (row.l.length-q) c')∧row.l.length-q≤c'∧(q<row.l.length→A'=some ⟨gv v,q,none⟩)
theorem u7.bump {rows:List eu} {gv:Nat→Nat} {pos:List Nat} {vals:List Value} (h:u7 rows gv pos vals) {v q c':Nat} {row:eu} (hr:rows[v]?=some row) (hp:pos[v]?=some q) (hq:q<row.l.length) (hc:row.l.length-q≤c'):
 u7 rows gv (pos.set v (q+1)) (vals.set v (.slice (ij (some ⟨gv v,q,none⟩) c' 1 1) (row.l.length-q-1) (c'-1))):=by
 have hvl:v<vals.length:=by rw[h.len];exact (List.getElem?_eq_some_iff.1 hr).1
 refine⟨by rw[List.length_set];exact h.len,fun u ro p hu hpu=>?_⟩
 by_cases e:v=u
 ·subst e
  rw[hr] at hu
  simp only[Option.some.injEq] at hu
  subst hu
  rw[List.getElem?_set_self (List.getElem?_eq_some_iff.1 hp).1] at hpu
  simp only[Option.some.injEq] at hpu
  subst hpu
  refine⟨_,c'-1,by rw[List.getElem?_set_self hvl,Nat.sub_sub],by omega,fun hlt=>?_⟩
  have:=jc (A:=some ⟨gv v,q,none⟩) (c:=c') (l:=1) (n:=row.l.length-q) (sz:=1) (fun _=>rfl) hc (by omega)
  rw[this]
 ·rw[List.getElem?_set_ne e] at hpu ⊢
  exact h.at_ u ro p hu hpu
def bT (L:Nat→List Nat) (n:Nat) (pos:List Nat):Nat:=((List.range (n+1)).map fun v=>(L v).length-pos.getD v 0).sum
theorem gt {f g:Nat→Nat} {v:Nat}:∀ {l:List Nat},l.Nodup→v∈l→(∀ u∈l,u≠v→f u=g u)→f v+1=g v→(l.map f).sum+1=(l.map g).sum
 |[],_,h,_,_=>by cases h
 |u::l,hn,hv,he,h1=>by
  obtain⟨h2,h3⟩:=List.nodup_cons.1 hn
  simp only[List.map_cons,List.sum_cons]
  rcases List.mem_cons.1 hv with rfl|hv
  ·have:(l.map f)=l.map g:=List.map_congr_left fun w hw=>he w (by simp[hw]) (fun e=>h2 (e▸hw))
   rw[this];omega
  ·have:=gt h3 hv (fun w hw=>he w (by simp[hw])) h1
   have:=he u (by simp) (fun e=>h2 (e▸hv))
   omega
theorem eY {L:Nat→List Nat} {n:Nat} {pos:List Nat} {v q:Nat} (hp:pos[v]?=some q) (hv:v≤n) (hq:q<(L v).length):bT L n (pos.set v (q+1))+1=bT L n pos:=by
 have hlt:=(List.getElem?_eq_some_iff.1 hp).1
 unfold bT
 refine gt (v:=v) List.nodup_range (List.mem_range.2 (by omega)) (fun u _ hu=>?_) ?_
 ·simp only[List.getD_eq_getElem?_getD]
  rw[List.getElem?_set_ne hu.symm]
 ·simp only[List.getD_eq_getElem?_getD]
  rw[List.getElem?_set_self hlt,hp]
  simp only[Option.getD_some]
  omega
structure NS where
 pos:List Nat
 W:List Nat
 vals:List Value
 Aw:Option Addr
 cw:Nat
def zd (N:a8) (L:Nat→List Nat) (least:Int) (rm:List Int) (rows:List eu) (gv:Nat→Nat) (A:Option Addr) (c:Nat) (Ar:Option Addr) (cr pw gl n:Nat) (pos W:List Nat) (v:Value) (H':Heap):Prop:=
 ∃ (bb:Bool) (s:NS),v=.bool bb∧Nx N L least rm pos W bb s.pos s.W∧PI N L least rm s.pos s.W∧u7 rows gv s.pos s.vals∧
   H'=[blk pw 316 (pu N A c Ar cr least gl n s.Aw s.W.length s.cw),.own (.slice (some ⟨gl,0,none⟩) (n+1) (n+1)) 23 1 (n+1) s.vals,.own (.slice s.Aw s.W.length s.cw) 3 1 s.W.length (bL s.W)]++rows.map (bH 3)
set_option maxHeartbeats 1000000 in
theorem xO (N:a8) (hR:N.Right) (A:Option Addr) (c b o:Nat) (hA:N.arcs≠[]→A=some ⟨b,o,none⟩) (pw:Nat) (Ar:Option Addr) (cr gr:Nat) (least:Int) (gl n:Nat) (hn:N.nodes=n) (L:Nat→List Nat) (lv:Nat→Int) (hG:dN N L lv) (hLl:∀ v,(L v).length≤4000)
 (rm:List Int) (hrl:rm.length=2*N.arcs.length) (hAr:rm≠[]→Ar=some ⟨gr,0,none⟩) (rows:List eu) (hrows:rows.length=n+1) (hL:∀ (v:Nat) (row:eu),rows[v]?=some row→row.l=(L v).map fun (i:Nat)=>(i:Int))
 (gv:Nat→Nat) (hgv:∀ (v:Nat) (row:eu),rows[v]?=some row→ap row.l≠[]→row.A=some ⟨gv v,0,none⟩) (s:NS) (hI:PI N L least rm s.pos s.W) (hV:u7 rows gv s.pos s.vals):
 Fn 239 [.pointer (some ⟨pw,0,none⟩)] (aR ([blk pw 316 (pu N A c Ar cr least gl n s.Aw s.W.length s.cw),.own (.slice (some ⟨gl,0,none⟩) (n+1) (n+1)) 23 1 (n+1) s.vals,.own (.slice s.Aw s.W.length s.cw) 3 1 s.W.length (bL s.W)]++rows.map (bH 3)))
  ([.seg b o (arcs N.arcs),.seg gr 0 (ap rm)]++([blk pw 316 (pu N A c Ar cr least gl n s.Aw s.W.length s.cw),.own (.slice (some ⟨gl,0,none⟩) (n+1) (n+1)) 23 1 (n+1) s.vals,.own (.slice s.Aw s.W.length s.cw) 3 1 s.W.length (bL s.W)]++rows.map (bH 3)))
  (zd N L least rm rows gv A c Ar cr pw gl n s.pos s.W):=by
 have hnn:=hR.nodes
 have hsr:=hR.src
 have hsk:=hR.snk
 have hdf:=hR.diff
 have hl2:=hR.len
 have hmlen:∀ (pos W:List Nat),PI N L least rm pos W→W.length≤n∧cq N W≤n∧(∀ r∈W,r<2*N.arcs.length):=by
  intro pos W hI
  have h1:=(km hG hI.on hI.mem).1
  have h2:=hG.hi (cq N W)
  have h3:=hG.hi N.src.toNat
  have hWr:∀ r∈W,r<2*N.arcs.length:=fun r hr=>(hG.ok _ _ (hI.mem r hr)).1
  refine⟨by omega,?_,hWr⟩
  rcases List.eq_nil_or_concat W with rfl|⟨W0,r,rfl⟩
  ·show N.src.toNat≤n;omega
  ·rw[List.concat_eq_append,kp]
   have:=(fu hR (hWr r (by simp))).2.2
   omega
 generalize hM:aR _=M
 refine aS Tryz.func239 rfl rfl fun w0=>?_
 show J _ _ _ _ ([_,_,_,_,_]++rows.map (bH 3))
 refine ad (aa (ae [] rfl ?_))
 refine sY ?_
 refine ad ?_
 refine sj ?_
 refine ad (ad ?_)
 refine bO (bh 4 rfl) fun ⟨_,_,hAw0,hl0⟩=>?_
 obtain⟨gw0,hAw0⟩:=cB hAw0 hl0
 obtain⟨m1,m2,m3⟩:=hmlen _ _ hI
 refine aa (ah [] rfl ?_)
 refine ax [] (oN N hR A c b o hA pw Ar cr least gl n s.W m3 (by omega) s.Aw s.cw gw0 (fun h=>hAw0 (i6 h))) rfl rfl rfl rfl (by kernel_rfl) ⟨⟨2,_,by simp,rfl,aL _ _ _ (0,0),.inr rfl⟩,⟨0,_,by simp,rfl,aq _ _ _,ay⟩,⟨4,_,by simp,rfl,aY hAw0,a7 hAw0⟩,trivial⟩ (fun _=>rfl) ?_
 rintro v H' ⟨rfl,rfl⟩
 refine⟨rfl,?_⟩
 refine ae [] rfl ?_
 refine au ?_
 clear m1 m2 m3 hAw0 hl0
 refine cN (σ:=NS) (fun t=>[(3,.int .i64 (cq N t.W:Nat)),(0,.pointer (some ⟨pw,0,none⟩))])
  (fun t=>[.seg b o (arcs N.arcs),.seg gr 0 (ap rm),blk pw 316 (pu N A c Ar cr least gl n t.Aw t.W.length t.cw),.own (.slice (some ⟨gl,0,none⟩) (n+1) (n+1)) 23 1 (n+1) t.vals,.own (.slice t.Aw t.W.length t.cw) 3 1 t.W.length (bL t.W)]++rows.map (bH 3))
  (fun t=>PI N L least rm t.pos t.W∧u7 rows gv t.pos t.vals∧∀ bb p w,Nx N L least rm t.pos t.W bb p w→Nx N L least rm s.pos s.W bb p w)
  (fun t=>(n+2)*bT L n t.pos+(n+1-t.W.length)) s ⟨rfl,rfl,trivial⟩ aK.refl ⟨hI,hV,fun _ _ _ h=>h⟩ ?_
 rintro⟨pos,W,vals,Aw,cw⟩ ⟨hI,hV,hX⟩
 simp only at hI hV hX ⊢
 obtain⟨m1,m2,m3⟩:=hmlen _ _ hI
 refine ad (ad (aa (ah [] rfl ?_)))
 refine ab [] (af (v:=.int .i64 N.snk) 2 rfl rfl rfl rfl) rfl ?_
 refine ae [] rfl ?_
 refine aC rfl (fun hne=>av ?_) (fun heq=>aV ?_)
 ·have hne':cq N W≠N.snk.toNat:=fun e=>hne (by omega)
  refine ad (au ?_)
  refine ad (au ?_)
  refine cN (σ:=List Nat×List Value) (fun t=>[(3,.int .i64 (cq N W:Nat)),(0,.pointer (some ⟨pw,0,none⟩))])
   (fun t=>[.seg b o (arcs N.arcs),.seg gr 0 (ap rm),blk pw 316 (pu N A c Ar cr least gl n Aw W.length cw),.own (.slice (some ⟨gl,0,none⟩) (n+1) (n+1)) 23 1 (n+1) t.2,.own (.slice Aw W.length cw) 3 1 W.length (bL W)]++rows.map (bH 3))
   (fun t=>PI N L least rm t.1 W∧u7 rows gv t.1 t.2∧(∀ bb p w,Nx N L least rm t.1 W bb p w→Nx N L least rm s.pos s.W bb p w)∧bT L n t.1≤bT L n pos)
   (fun t=>bT L n t.1) (pos,vals) ⟨rfl,rfl,trivial⟩ aK.refl ⟨hI,hV,hX,Nat.le_refl _⟩ ?_
  rintro⟨pos2,vals2⟩ ⟨hI2,hV2,hX2,hrem2⟩
  simp only at hI2 hV2 hX2 hrem2 ⊢
  obtain⟨v,hv⟩:∃ v,cq N W=v:=⟨_,rfl⟩
  rw[hv] at m2 hne' ⊢
  obtain⟨row,hrow⟩:∃ row,rows[v]?=some row:=⟨rows[v]'(by omega),List.getElem?_eq_getElem (by omega)⟩
  obtain⟨q,hq⟩:∃ q,pos2[v]?=some q:=⟨pos2[v]'(by have:=hI2.pl;omega),List.getElem?_eq_getElem (by have:=hI2.pl;omega)⟩
  obtain⟨A',c',hval,hcc,hAv⟩:=hV2.at_ v row q hrow hq
  have hrl':=hL v row hrow
  have hrll:row.l.length=(L v).length:=by rw[hrl',List.length_map]
  have hLv:=hLl v
  refine ad (ad (aa (ah [] rfl ?_)))
  refine ab [] (af (v:=.slice (some ⟨gl,0,none⟩) (n+1) (n+1)) 2 rfl rfl rfl rfl) rfl ?_
  refine ah [] rfl ?_
  refine ab [] (aJ rfl rfl rfl rfl rfl (by omega)) rfl ?_
  refine ab [] (aD (v:=.slice A' (row.l.length-q) c') 3 rfl rfl rfl hval) rfl ?_
  refine ae [] rfl ?_
  refine aC rfl (fun hpos=>av ?_) (fun hemp=>aV ?_)
  ·have hqlt:q<row.l.length:=by omega
   obtain rfl:=hAv hqlt
   obtain⟨r,hr⟩:∃ r,(L v)[q]?=some r:=⟨(L v)[q]'(by omega),List.getElem?_eq_getElem (by omega)⟩
   have hry:row.l[q]?=some (r:Int):=by rw[hrl',List.getElem?_map,hr];rfl
   have hrlt:=(hG.ok _ _ (List.mem_of_getElem? hr)).1
   obtain⟨x,hxr⟩:∃ x,rm[r]?=some x:=⟨rm[r]'(by omega),List.getElem?_eq_getElem (by omega)⟩
   have hxd:rm.getD r 0=x:=by rw[List.getD_eq_getElem?_getD,hxr];rfl
   obtain rfl:=hAr (by intro h0;rw[h0] at hxr;simp at hxr)
   have hrowne:ap row.l≠[]:=by
    intro h0
    have:row.l.length=0:=by rw[← bB,h0];rfl
    omega
   have hrA:=hgv v row hrow hrowne
   refine au (ad (aa (ah [] rfl ?_)))
   refine ab [] (af (v:=.slice (some ⟨gl,0,none⟩) (n+1) (n+1)) 2 rfl rfl rfl rfl) rfl ?_
   refine ah [] rfl ?_
   refine ab [] (aJ rfl rfl rfl rfl rfl (by omega)) rfl ?_
   refine ab [] (aD (v:=.slice (some ⟨gv v,q,none⟩) (row.l.length-q) c') 3 rfl rfl rfl hval) rfl ?_
   refine ab [] (f9 (m:=0) rfl rfl rfl rfl rfl (by omega)) rfl ?_
   refine ab [] (dD (b:=gv v) (off:=q) (i:=0) (cs:=(ap row.l).drop q) (v:=.int .i64 (r:Int)) (c:=bH 3 row) (v+5) rfl rfl (show (rows.map (bH 3))[v]?=_ by rw[List.getElem?_map,hrow];rfl)
    (by have:=ik (aY (e:=3) (sz:=1) (n:=row.l.length) (cap:=row.c) (fun _=>hrA:ap row.l≠[]→row.A=some ⟨gv v,0,none⟩)) q;rw[Nat.zero_add] at this;exact this)
    (by show ((ap row.l).drop q)[0]?=_;rw[List.getElem?_drop];exact b8 hry)) rfl ?_
   refine ae [] rfl ?_
   refine ad (ad ?_)
   refine bp 12 [(0,true),(1,true),(2,true),(3,true),(4,true),(5,true),(6,true),(7,true),(8,true),(9,true),(10,true),(11,true)] [1,2] (by kernel_rfl) (by decide) rfl ?_
   refine aF [] rfl ?_
   refine aj [] rfl (af (v:=.slice (some ⟨gr,0,none⟩) (2*N.arcs.length) cr) 1 rfl rfl rfl rfl) rfl ?_
   refine aF [] rfl ?_
   refine aj [] rfl (aJ rfl rfl rfl rfl rfl hrlt) rfl ?_
   refine aj [] rfl (bz (i:=r) 0 rfl rfl rfl (Nat.zero_add _).symm (a9 hxr)) rfl ?_
   refine aF [] rfl ?_
   refine aj [] rfl (af (v:=.int .i64 least) 1 rfl rfl rfl rfl) rfl ?_
   refine dW [] rfl ?_
   refine ai ?_
   refine aC rfl (fun hge=>?_) (fun hlt=>av ?_)
   ·have hI3:=hI2.go hG (by rw[hv];exact hq) (by rw[hv];exact hr) (by omega:least≤rm.getD r 0)
    obtain⟨w1,w2,w3⟩:=hmlen _ _ hI3
    rw[List.length_append,List.length_singleton] at w1
    refine ad (aa (ah [] rfl ?_))
    refine ab [] (af (v:=.slice Aw W.length cw) 2 rfl rfl rfl rfl) rfl ?_
    refine ah [] rfl ?_
    refine bK rfl rfl rfl rfl rfl rfl rfl (fun _=>rfl) fun g4=>?_
    refine be (n:=W.length) (m:=1) (off:=0) (news:=ap [(r:Int)]) 5 0 rfl rfl rfl rfl rfl rfl (by decide) rfl rfl (aL g4 _ _ (0,0)) (fun _=>rfl) rfl rfl (by omega) (by omega) (fun _ _=>rfl) fun A4 c4=>?_
    rw[show W.length+1=(W++[r]).length by simp,lu]
    refine ah [] rfl ?_
    refine aX 3 rfl rfl rfl rfl rfl [] rfl ?_
    refine ai ?_
    show J _ _ _ _ ([_,_,_,_,_,_]++rows.map (bH 3))
    refine bA (aK.re [1,2,3,4,5] rfl (by decide)) ?_
    refine aV ?_
    refine bO (bh 4 rfl) fun ⟨_,_,hAwx,hlx⟩=>?_
    obtain⟨gwx,hAwx⟩:=cB hAwx hlx
    refine aa (ah [] rfl ?_)
    refine ax [] (oN N hR A c b o hA pw _ cr least gl n (W++[r]) w3 (by rw[List.length_append,List.length_singleton];omega) _ _ gwx (fun h=>hAwx (i6 h))) rfl rfl rfl rfl (by kernel_rfl) ⟨⟨2,_,by simp,rfl,aL _ _ _ (0,0),.inr rfl⟩,⟨0,_,by simp,rfl,aq _ _ _,ay⟩,⟨4,_,by simp,rfl,aY hAwx,a7 hAwx⟩,trivial⟩ (fun _=>rfl) ?_
    rintro vx Hx ⟨rfl,rfl⟩
    refine⟨rfl,?_⟩
    refine ae [] rfl ?_
    exact⟨⟨pos2,W++[r],vals2,A4,c4⟩,⟨rfl,rfl,trivial⟩,aK.refl,⟨hI3,hV2,fun bb p w hx=>hX2 _ _ _ (.go (by rw[hv];exact hne') (by rw[hv];exact hq) (by rw[hv];exact hr) (by omega) hx)⟩,by
     simp only[List.length_append,List.length_singleton]
     have:(n+2)*bT L n pos2≤(n+2)*bT L n pos:=Nat.mul_le_mul_left _ hrem2
     omega⟩
   ·have hI3:=hI2.skip hG (by rw[hv];exact hq) (by rw[hv];exact hr) (by omega:rm.getD r 0<least)
    rw[hv] at hI3
    have hbump:=eY (L:=L) (n:=n) hq m2 (by omega)
    refine bp 14 [(0,true),(1,true),(2,true),(3,true),(4,true),(5,true),(6,true),(7,true),(8,true),(9,true),(10,true),(11,true),(12,true),(13,true)] [2,3] (by kernel_rfl) (by decide) rfl ?_
    refine aF [] rfl ?_
    refine aj [] rfl (af (v:=.slice (some ⟨gl,0,none⟩) (n+1) (n+1)) 0 rfl rfl rfl rfl) rfl ?_
    refine aF [] rfl ?_
    refine aj [] rfl (af (v:=.slice (some ⟨gl,0,none⟩) (n+1) (n+1)) 0 rfl rfl rfl rfl) rfl ?_
    refine aF [] rfl ?_
    refine aj [] rfl (aJ rfl rfl rfl rfl rfl (by omega)) rfl ?_
    refine aj [] rfl (aD (v:=.slice (some ⟨gv v,q,none⟩) (row.l.length-q) c') 1 rfl rfl rfl hval) rfl ?_
    refine aj [] rfl (eL (i:=1) rfl rfl rfl rfl rfl (by omega)) rfl ?_
    refine aj [] rfl (aJ rfl rfl rfl rfl rfl (by omega)) rfl ?_
    refine bv ?_
    refine aQ 3 rfl rfl rfl rfl (dk rfl rfl rfl (by rw[hV2.len];omega)) [] rfl ?_
    refine ai ?_
    exact⟨(pos2.set v (q+1),vals2.set v (.slice (ij (some ⟨gv v,q,none⟩) c' 1 1) (row.l.length-q-1) (c'-1))),⟨rfl,rfl,trivial⟩,aK.refl,⟨hI3,hV2.bump hrow hq hqlt hcc,fun bb p w hx=>hX2 _ _ _ (.skip (by rw[hv];exact hne') (by rw[hv];exact hq) (by rw[hv];exact hr) (by omega) (by rw[hv];exact hx)),by simp only;omega⟩,by simp only;omega⟩
  ·have hdead:(L v).length≤q:=by omega
   refine ad (aa (ah [] rfl ?_))
   refine ab [] (af (v:=.slice Aw W.length cw) 2 rfl rfl rfl rfl) rfl ?_
   refine ae [] rfl ?_
   refine aP 5 (v':=.int .i64 ((W.length:Int)-1)) rfl (congrArg (Value.int .i64) (bU (by omega))) ?_
   refine ad (ad (aa (ae [] rfl ?_)))
   refine aC rfl (fun hz=>?_) (fun hz=>av ?_)
   ·obtain rfl:W=[]:=List.length_eq_zero_iff.1 (by omega)
    refine ad (aa (ae [] rfl ?_))
    refine bA (aK.re [2,3,4] rfl (by decide)) (aB ⟨_,rfl,false,⟨pos2,[],vals2,Aw,cw⟩,rfl,hX2 _ _ _ (.stop (by omega) (p:=q) ?_ ?_),hI2,hV2,rfl⟩)
    ·rw[show N.src.toNat=v from hv];exact hq
    ·rw[show N.src.toNat=v from hv];exact hdead
   ·rcases List.eq_nil_or_concat W with rfl|⟨W0,r,rfl⟩
    ·simp at hz
    rw[List.concat_eq_append] at*
    obtain⟨qu,hu1,hu2,hu3⟩:=hI2.back_at
    have hI3:=hI2.back hG (by rw[hv];exact hne') (by rw[hv];exact hq) (by rw[hv];exact hdead) hu1
    have hI0:=hI2.drop
    obtain⟨y1,y2,y3⟩:=hmlen _ _ hI0
    have hlen0:(W0++[r]).length=W0.length+1:=by simp
    obtain⟨u,hu⟩:∃ u,cq N W0=u:=⟨_,rfl⟩
    rw[hu] at hu1 hu2 hu3 hI3 y2
    obtain⟨rowu,hrowu⟩:∃ row,rows[u]?=some row:=⟨rows[u]'(by omega),List.getElem?_eq_getElem (by omega)⟩
    obtain⟨Au,cu,hvalu,hccu,hAvu⟩:=hV2.at_ u rowu qu hrowu hu1
    have hrlu:rowu.l.length=(L u).length:=by rw[hL u rowu hrowu,List.length_map]
    have hqult:qu<rowu.l.length:=by rw[hrlu];exact (List.getElem?_eq_some_iff.1 hu2).1
    obtain rfl:=hAvu hqult
    have hLu:=hLl u
    have hbump:=eY (L:=L) (n:=n) hu1 y2 (by omega)
    refine bO (bh 4 rfl) fun ⟨_,hcwl,_,_⟩=>?_
    refine ad (aa (ah [] rfl ?_))
    refine ab [] (af (v:=.slice Aw (W0++[r]).length cw) 2 rfl rfl rfl rfl) rfl ?_
    refine ah [] rfl ?_
    refine aw 85 (v':=.int .i64 (W0.length:Int)) rfl (congrArg (Value.int .i64) (by omega)) ?_
    refine ab [] (fg (i:=W0.length) rfl rfl rfl rfl rfl (by omega)) rfl ?_
    refine ah [] rfl ?_
    refine aX 2 rfl rfl rfl rfl rfl [] rfl ?_
    refine ai ?_
    refine bA (aK.shrink (m:=W0.length) 4 rfl (by omega)) ?_
    rw[Nat.mul_one,show (bL (W0++[r])).take W0.length=bL W0 by rw[← lu,List.take_append_of_le_length (by rw[dF];omega),List.take_of_length_le (by rw[dF];omega)]]
    show J _ _ _ _ ([_,_,_,_,_]++rows.map (bH 3))
    refine bO (bh 4 rfl) fun ⟨_,_,hAwx,hlx⟩=>?_
    obtain⟨gwx,hAwx⟩:=cB hAwx hlx
    refine ad (aa (ah [] rfl ?_))
    refine ax [] (oN N hR A c b o hA pw _ cr least gl n W0 y3 (by omega) _ _ gwx (fun h=>hAwx (i6 h))) rfl rfl rfl rfl (by kernel_rfl) ⟨⟨2,_,by simp,rfl,aL _ _ _ (0,0),.inr rfl⟩,⟨0,_,by simp,rfl,aq _ _ _,ay⟩,⟨4,_,by simp,rfl,aY hAwx,a7 hAwx⟩,trivial⟩ (fun _=>rfl) ?_
    rintro vx Hx ⟨rfl,rfl⟩
    refine⟨rfl,?_⟩
    refine ae [] rfl ?_
    show J _ _ _ _ ([_,_,_,_,_]++rows.map (bH 3))
    refine aP 6 (v':=.int .i64 (u:Int)) rfl (congrArg (Value.int .i64) (by rw[hu])) ?_
    refine bp 14 [(0,true),(1,true),(2,true),(3,true),(4,true),(5,true),(6,true),(7,true),(8,true),(9,true),(10,true),(11,true),(12,true),(13,true)] [2,3] (by kernel_rfl) (by decide) rfl ?_
    refine aF [] rfl ?_
    refine aj [] rfl (af (v:=.slice (some ⟨gl,0,none⟩) (n+1) (n+1)) 0 rfl rfl rfl rfl) rfl ?_
    refine aF [] rfl ?_
    refine aj [] rfl (af (v:=.slice (some ⟨gl,0,none⟩) (n+1) (n+1)) 0 rfl rfl rfl rfl) rfl ?_
    refine aF [] rfl ?_
    refine aj [] rfl (aJ rfl rfl rfl rfl rfl (by omega)) rfl ?_
    refine aj [] rfl (aD (v:=.slice (some ⟨gv u,qu,none⟩) (rowu.l.length-qu) cu) 1 rfl rfl rfl hvalu) rfl ?_
    refine aj [] rfl (eL (i:=1) rfl rfl rfl rfl rfl (by omega)) rfl ?_
    refine aj [] rfl (aJ rfl rfl rfl rfl rfl (by omega)) rfl ?_
    refine bv ?_
    refine aQ 3 rfl rfl rfl rfl (dk rfl rfl rfl (by rw[hV2.len];omega)) [] rfl ?_
    refine ai ?_
    show J _ _ _ _ ([_,_,_,_,_]++rows.map (bH 3))
    refine bO (bh 4 rfl) fun ⟨_,_,hAwx,hlx⟩=>?_
    obtain⟨gwx,hAwx⟩:=cB hAwx hlx
    refine aa (ah [] rfl ?_)
    refine ax [] (oN N hR A c b o hA pw _ cr least gl n W0 y3 (by omega) _ _ gwx (fun h=>hAwx (i6 h))) rfl rfl rfl rfl (by kernel_rfl) ⟨⟨2,_,by simp,rfl,aL _ _ _ (0,0),.inr rfl⟩,⟨0,_,by simp,rfl,aq _ _ _,ay⟩,⟨4,_,by simp,rfl,aY hAwx,a7 hAwx⟩,trivial⟩ (fun _=>rfl) ?_
    rintro vx Hx ⟨rfl,rfl⟩
    refine⟨rfl,?_⟩
    refine ae [] rfl ?_
    exact⟨⟨pos2.set u (qu+1),W0,vals2.set u (.slice (ij (some ⟨gv u,qu,none⟩) cu 1 1) (rowu.l.length-qu-1) (cu-1)),Aw,cw⟩,⟨rfl,rfl,trivial⟩,aK.refl,⟨hI3,hV2.bump hrowu hu1 hqult hccu,fun bb p w hx=>hX2 _ _ _ (.back (by rw[hv];exact hne') (by rw[hv];exact hq) (by rw[hv];exact hdead) (by rw[hu];exact hu1) (by rw[hu];exact hx))⟩,by
     simp only
     have h1:(n+2)*bT L n pos2≤(n+2)*bT L n pos:=Nat.mul_le_mul_left _ hrem2
     have h2:(n+2)*bT L n pos2=(n+2)*bT L n (pos2.set u (qu+1))+(n+2):=by rw[← hbump,Nat.mul_add];omega
     omega⟩
 ·refine ad (aa (ae [] rfl ?_))
  refine bA (aK.re [2,3,4] rfl (by decide)) (aB ⟨_,rfl,true,⟨pos,W,vals,Aw,cw⟩,rfl,hX _ _ _ (.hit (by omega)),hI,hV,rfl⟩)
end Go.Proofs.YtpbmihpjgjbndaaGreatDoor
