/- The engine and the words that all chapters share: several texts in one. -/
import Derived.Test.YtpbmihpjgjbndaaGreatRefS
import Derived.Test.YtpbmihpjgjbndaaGreatLeadN
import Derived.Test.YtpbmihpjgjbndaaGreatQX20
/- The references' words: tracks that lead on, and how deep the sink lies. -/
set_option linter.unusedVariables false
set_option linter.unusedSimpArgs false
namespace Go.Proofs.YtpbmihpjgjbndaaGreat
open Go.RowKit
def w5 (N:bt) (f:List Int) (least:Int) (v:Value) (H':Heap):Prop:=
 (dM N f least=0∧∃ (lv:List Int),dx N (aK (N.arcs.zip f)) least lv∧v=pZ (bT lv N.snk.toNat,0)∧H'=[])∨(dM N f least≠0∧v=pZ (0,dM N f least)∧H'=[])
theorem oF (N:bt) (hN:N.Fits) (A:Option Addr) (c b o:Nat) (hA:N.arcs≠[]→A=some ⟨b,o,none⟩) (f:List Int) (F:Option Addr) (cf bf of:Nat) (hF:f≠[]→F=some ⟨bf,of,none⟩) (hf:∀ x∈f,dw x) (hfl:f.length*8≤140737488351232) (least:Int):
 Fn 63 [bi N A c,.slice F f.length cf,.int .i64 least] [] [.seg b o (arcs N.arcs),.seg bf of (aw f)] (w5 N f least):=by
 refine aM Tryz.func63 rfl rfl fun w0=>?_
 refine ae (aa ?_)
 refine a6 (cs:=bJ N A c) rfl rfl rfl (fun _=>rfl) fun p=>?_
 refine af [] rfl ?_
 refine ae (aa ?_)
 refine ab [] (v:=bi N A c) (ad 0 rfl rfl rfl rfl) rfl ?_
 refine ah [] rfl ?_
 refine ax [] (mL N hN A c b o hA f F cf bf of hF hf hfl least) rfl rfl rfl rfl (by kernel_rfl) ⟨⟨1,_,by simp,rfl,ak _ _ _,ap⟩,⟨2,_,by simp,rfl,ak _ _ _,ap⟩,trivial⟩ (fun _=>rfl) ?_
 rintro v H' (⟨he0,n,g,lv,hn,hlv,rfl,rfl⟩|⟨he,rfl,rfl⟩)
 case inr=>
  refine⟨rfl,?_⟩
  refine af [] rfl ?_
  refine ae (ae (aa (af [] rfl ?_)))
  refine aC rfl (fun h=>?_) (fun h=>absurd he h)
  refine ae (aa (af [] rfl ?_))
  exact aE [] (by decide) rfl (aB ⟨_,rfl,.inr ⟨he,rfl,rfl⟩⟩)
 obtain⟨hR,hW,hle⟩:=dB.1 he0
 have hsk:=hR.snk
 have hll:=hlv.len
 refine⟨rfl,?_⟩
 refine af [] rfl ?_
 refine ae (ae (aa (af [] rfl ?_)))
 refine aC rfl (fun h=>absurd rfl h) (fun _=>aq ?_)
 obtain⟨t,ht⟩:∃ t:Nat,N.snk=t:=⟨N.snk.toNat,by omega⟩
 have ht':N.snk.toNat=t:=by omega
 have hx:=eB (lv:=lv) (v:=t) (by omega)
 refine ae (aa (ah [] rfl ?_))
 refine ab [] (v:=.int .i64 N.snk) (ad 1 rfl rfl rfl rfl) rfl ?_
 refine av 22 (v':=.int .i64 (t:Int)) rfl (congrArg (Value.int .i64) ht) ?_
 refine ab [] (aI rfl rfl rfl rfl rfl (show t<n+1 by omega)) rfl ?_
 refine ab [] (aF 0 rfl rfl rfl (aN hx)) rfl ?_
 refine af [] rfl ?_
 exact aE [] (by decide) rfl (aB ⟨_,rfl,.inl ⟨he0,lv,hlv,by rw[ht'];rfl,rfl⟩⟩)
def tX (N:bt) (f:List Int) (least:Int) (v:Value) (H':Heap):Prop:=
 (dM N f least=0∧∃ (lv:List Int) (A':Option Addr) (c':Nat),dx N (aK (N.arcs.zip f)) least lv∧v=.tuple #[.slice A' (bo N (aK (N.arcs.zip f)) least lv (2*N.arcs.length)).length c',.int .i64 0]∧
  H'=[.own (.slice A' (bo N (aK (N.arcs.zip f)) least lv (2*N.arcs.length)).length c') 3 1 (bo N (aK (N.arcs.zip f)) least lv (2*N.arcs.length)).length (aw ((bo N (aK (N.arcs.zip f)) least lv (2*N.arcs.length)).map fun (i:Nat)=>(i:Int)))])∨
 (dM N f least≠0∧v=.tuple #[.slice none 0 0,.int .i64 (dM N f least)]∧H'=[])
set_option maxHeartbeats 2000000 in
theorem sU (N:bt) (hN:N.Fits) (A:Option Addr) (c b o:Nat) (hA:N.arcs≠[]→A=some ⟨b,o,none⟩) (f:List Int) (F:Option Addr) (cf bf of:Nat) (hF:f≠[]→F=some ⟨bf,of,none⟩) (hf:∀ x∈f,dw x) (hfl:f.length*8≤140737488351232) (least:Int):
 Fn 68 [bi N A c,.slice F f.length cf,.int .i64 least] [] [.seg b o (arcs N.arcs),.seg bf of (aw f)] (tX N f least):=by
 refine aM Tryz.func68 rfl rfl fun w0=>?_
 refine ae (aa ?_)
 refine a6 (cs:=bJ N A c) rfl rfl rfl (fun _=>rfl) fun p=>?_
 refine af [] rfl ?_
 refine ae (aa ?_)
 refine ab [] (v:=bi N A c) (ad 0 rfl rfl rfl rfl) rfl ?_
 refine ah [] rfl ?_
 refine ax [] (mL N hN A c b o hA f F cf bf of hF hf hfl least) rfl rfl rfl rfl (by kernel_rfl) ⟨⟨1,_,by simp,rfl,ak _ _ _,ap⟩,⟨2,_,by simp,rfl,ak _ _ _,ap⟩,trivial⟩ (fun _=>rfl) ?_
 rintro v H' (⟨he0,n,g,lv,hn,hlv,rfl,rfl⟩|⟨he,rfl,rfl⟩)
 case inr=>
  refine⟨rfl,?_⟩
  refine af [] rfl ?_
  refine ae (ae (aa (af [] rfl ?_)))
  refine aC rfl (fun h=>?_) (fun h=>absurd he h)
  refine ae (aa (af [] rfl ?_))
  exact aE [] (by decide) rfl (aB ⟨_,rfl,.inr ⟨he,rfl,rfl⟩⟩)
 obtain⟨hR,hW,hle⟩:=dB.1 he0
 have hnn:=hR.nodes
 have hl2:=hR.len
 have hll:=hlv.len
 refine⟨rfl,?_⟩
 refine af [] rfl ?_
 refine ae (ae (aa (af [] rfl ?_)))
 refine aC rfl (fun h=>absurd rfl h) (fun _=>aq ?_)
 refine ae (aa ?_)
 refine ab [] (v:=bi N A c) (ad 1 rfl rfl rfl rfl) rfl ?_
 refine ah [] rfl ?_
 refine ax [] (iZ N hN A c b o hA f F cf bf of hF hf hfl) rfl rfl rfl rfl (by kernel_rfl) ⟨⟨2,_,by simp,rfl,ak _ _ _,ap⟩,⟨3,_,by simp,rfl,ak _ _ _,ap⟩,trivial⟩ (fun _=>rfl) ?_
 rintro v H' (⟨_,_,A1,c1,rfl,rfl⟩|⟨hw,rfl,rfl⟩)
 case inr=>exact absurd (dH.2 ⟨hR,hW⟩) hw
 refine⟨rfl,?_⟩
 refine af [] rfl ?_
 unfold tX
 obtain⟨rm,hrm⟩:∃ rm,rm=aK (N.arcs.zip f):=⟨_,rfl⟩
 have hrl:rm.length=2*N.arcs.length:=by rw[hrm,b7,List.length_zip,hW.len,Nat.min_self]
 rw[← hrm] at hlv ⊢
 refine ae (aa (af [] rfl ?_))
 refine ae (ae (aa (af [] rfl ?_)))
 refine au ?_
 refine bO 3 1 ?_
 refine bu (σ:=Nat×Option Addr×Nat) (fun s=>[(13,.int .i64 (s.1:Int)),(12,.slice s.2.1 (bo N rm least lv s.1).length s.2.2),(10,.slice A1 (2*N.arcs.length) c1),(8,.slice (some ⟨g,0,none⟩) (n+1) (n+1)),(3,.pointer (some ⟨p,0,none⟩)),(2,.int .i64 least)])
  (fun s=>[.own (.slice s.2.1 (bo N rm least lv s.1).length s.2.2) 3 1 (bo N rm least lv s.1).length (aw ((bo N rm least lv s.1).map fun (i:Nat)=>(i:Int))),.own (.slice A1 (2*N.arcs.length) c1) 2 1 (2*N.arcs.length) (aw rm),.own (.slice (some ⟨g,0,none⟩) (n+1) (n+1)) 3 1 (n+1) (aw lv),blk p 50 (bJ N A c),.seg b o (arcs N.arcs)])
  (fun s=>s.1≤2*N.arcs.length) (fun s=>2*N.arcs.length-s.1) (0,none,0) [0,1,2,3,4] ⟨rfl,rfl,rfl,rfl,rfl,rfl,trivial⟩ (by decide) rfl (Nat.zero_le _) ?_
 rintro⟨k,A2,c2⟩ hk
 simp only at hk ⊢
 have hkl:=eA N rm least lv k
 refine bG (bp 1 rfl) fun ⟨_,_,hA1,_⟩=>?_
 refine ae (ae (aa (af [] rfl ?_)))
 refine aC rfl (fun hlt=>aq ?_) (fun hge=>aO ?_)
 ·have hlt:k<2*N.arcs.length:=by omega
  obtain⟨g1,rfl⟩:=hA1 (by omega)
  obtain⟨e2,t1,t2⟩:=d6 hR hlt
  obtain⟨e1,f1,f2⟩:=eD hR hlt
  have hE:cL N k=((bU N k:Int),(cH N k:Int)):=Prod.ext e1 e2
  have T:=i6 N A c b o hA hl2 k hlt
  rw[hE] at T
  obtain⟨x,hx⟩:∃ x,rm[k]?=some x:=⟨rm[k]'(by omega),List.getElem?_eq_getElem (by omega)⟩
  have hxd:rm.getD k 0=x:=by rw[List.getD_eq_getElem?_getD,hx];rfl
  have hws:=lB (N:=N) (rm:=rm) (least:=least) (lv:=lv) k
  rw[hxd] at hws
  have h1:=eB (lv:=lv) (v:=bU N k) (by omega)
  have h3:=eB (lv:=lv) (v:=cH N k) (by omega)
  have hru:=hlv.rng (bU N k)
  have hq:IntKind.i64.wrap ((k:Int)+1)=((k+1:Nat):Int):=bK (by omega)
  refine ae (au ?_)
  refine ae (aa ?_)
  refine ab [] (v:=bi N A c) (ad 3 rfl rfl rfl rfl) rfl ?_
  refine ah [] rfl ?_
  refine ax [] T rfl rfl rfl rfl (by kernel_rfl) ⟨⟨4,_,by simp,rfl,ak _ _ _,ap⟩,trivial⟩ (fun _=>rfl) ?_
  rintro v H' ⟨rfl,rfl⟩
  refine⟨rfl,?_⟩
  refine af [] rfl ?_
  refine dg [(68,.bool (cU (least≤x∧bT lv (bU N k)≠-1∧bT lv (cH N k)=bT lv (bU N k)+1))),(13,.int .i64 (k:Int)),(12,.slice A2 (bo N rm least lv k).length c2),(10,.slice (some ⟨g1,0,none⟩) (2*N.arcs.length) c1),(8,.slice (some ⟨g,0,none⟩) (n+1) (n+1)),(3,.pointer (some ⟨p,0,none⟩)),(2,.int .i64 least)]
   [.own (.slice A2 (bo N rm least lv k).length c2) 3 1 (bo N rm least lv k).length (aw ((bo N rm least lv k).map fun (i:Nat)=>(i:Int))),.own (.slice (some ⟨g1,0,none⟩) (2*N.arcs.length) c1) 2 1 (2*N.arcs.length) (aw rm),.own (.slice (some ⟨g,0,none⟩) (n+1) (n+1)) 3 1 (n+1) (aw lv),blk p 50 (bJ N A c),.seg b o (arcs N.arcs)] ?_ ?_
  ·skip
   refine bq 25 [(0,true),(1,true),(2,true),(3,true),(4,true),(5,true),(6,true),(7,true),(8,true),(9,true),(10,true),(11,true),(12,true),(13,true),(14,true),(15,true),(16,true),(17,true),(18,true),(19,true),(20,true),(21,true),(22,true),(23,true),(24,true)] [0,1,2,3,4] (by kernel_rfl) (by decide) rfl ?_
   refine aJ [] rfl ?_
   refine ai [] rfl (aI rfl rfl rfl rfl rfl hlt) rfl ?_
   refine ai [] rfl (aF 1 rfl rfl rfl (bn hx)) rfl ?_
   refine aL (gs:=[]) rfl rfl ?_
   refine aL (gs:=[]) rfl rfl ?_
   refine aL (gs:=[]) rfl rfl ?_
   by_cases c1':least≤x
   case neg=>
    refine bH 50 (v':=.bool false) rfl (congrArg Value.bool (aA c1')) ?_
    refine cA [6,13] rfl ?_
    refine aj ?_
    exact⟨[0,1,2,3,4],⟨congrArg some (congrArg Value.bool (aA (fun h=>c1' h.1)).symm),rfl,rfl,rfl,rfl,rfl,rfl,trivial⟩,by decide,rfl⟩
   refine bH 50 (v':=.bool true) rfl (congrArg Value.bool (az c1')) ?_
   refine aJ [6] rfl ?_
   refine ai [6] rfl (aI rfl rfl rfl rfl rfl (show bU N k<n+1 by omega)) rfl ?_
   refine ai [6] rfl (aF 2 rfl rfl rfl (aN h1)) rfl ?_
   refine aJ [6] rfl ?_
   by_cases c2':0≤bT lv (bU N k)
   case neg=>
    refine bH 57 (v':=.bool false) rfl (congrArg Value.bool (aA c2')) ?_
    refine cA [6,13] rfl ?_
    refine aj ?_
    exact⟨[0,1,2,3,4],⟨congrArg some (congrArg Value.bool (aA (fun h=>h.2.1 (by omega))).symm),rfl,rfl,rfl,rfl,rfl,rfl,trivial⟩,by decide,rfl⟩
   refine bH 57 (v':=.bool true) rfl (congrArg Value.bool (az c2')) ?_
   refine aJ [6,13] rfl ?_
   refine ai [6,13] rfl (aI rfl rfl rfl rfl rfl (show cH N k<n+1 by omega)) rfl ?_
   refine ai [6,13] rfl (aF 2 rfl rfl rfl (aN h3)) rfl ?_
   refine aJ [6,13] rfl ?_
   refine ai [6,13] rfl (aI rfl rfl rfl rfl rfl (show bU N k<n+1 by omega)) rfl ?_
   refine ai [6,13] rfl (aF 2 rfl rfl rfl (aN h1)) rfl ?_
   refine aL (gs:=[6,13]) rfl rfl ?_
   refine bH 66 (v':=.int .i64 (bT lv (bU N k)+1)) rfl (congrArg (Value.int .i64) (bK (by omega))) ?_
   refine cA [6,13] rfl ?_
   refine aj ?_
   exact⟨[0,1,2,3,4],⟨congrArg some (congrArg Value.bool (db ⟨fun h=>⟨c1',by omega,h⟩,fun h=>h.2.2⟩)),rfl,rfl,rfl,rfl,rfl,rfl,trivial⟩,by decide,rfl⟩
  ·refine aC rfl (fun hgo=>?_) (fun hgo=>aq ?_)
   ·rw[if_pos hgo] at hws
    refine aa (ah [] rfl ?_)
    refine b8 rfl rfl rfl rfl rfl rfl rfl (fun _=>rfl) fun g2=>?_
    refine a9 (n:=(bo N rm least lv k).length) (m:=1) (off:=0) (news:=aw [(k:Int)]) 1 0 rfl rfl rfl rfl rfl rfl (by decide) rfl rfl (aR g2 _ _ (0,0)) (fun _=>rfl) rfl rfl (by omega) (by omega) (fun _ _=>rfl) fun A3 c3=>?_
    rw[show (bo N rm least lv k).length+1=(bo N rm least lv (k+1)).length by rw[hws];simp,show aw ((bo N rm least lv k).map fun (i:Nat)=>(i:Int))++aw [(k:Int)]=aw ((bo N rm least lv (k+1)).map fun (i:Nat)=>(i:Int)) by rw[hws];simp[aw]]
    refine af [] rfl ?_
    refine aa (af [] rfl ?_)
    exact⟨(k+1,A3,c3),[1,2,3,4,5],⟨congrArg some (congrArg (Value.int .i64) hq),rfl,rfl,rfl,rfl,rfl,trivial⟩,by decide,rfl,by simp only;omega,by simp only;omega⟩
   ·rw[if_neg hgo,List.append_nil] at hws
    refine aa (af [] rfl ?_)
    exact⟨(k+1,A2,c2),[0,1,2,3,4],⟨congrArg some (congrArg (Value.int .i64) hq),by simp only[hws];rfl,rfl,rfl,rfl,rfl,trivial⟩,by decide,by simp only[hws];rfl,by simp only;omega,by simp only;omega⟩
 ·obtain rfl:k=2*N.arcs.length:=by omega
  refine ae (aa (af [] rfl ?_))
  exact aE [0] (by decide) rfl (aB ⟨_,rfl,.inl ⟨he0,lv,A2,c2,hlv,rfl,rfl⟩⟩)
end Go.Proofs.YtpbmihpjgjbndaaGreat
/- One flow blocks, in plain terms: the search finds but one thing. -/
set_option linter.unusedVariables false
set_option linter.unusedSimpArgs false
namespace Go.Proofs.YtpbmihpjgjbndaaGreat
open Go.RowKit
theorem Nx.uniq {N:bt} {L:Nat→List Nat} {least:Int} {rm:List Int} (hsn:N.src.toNat≠N.snk.toNat) {pos W pos' W':List Nat} {b:Bool} (h:Nx N L least rm pos W b pos' W'):∀ {V:List Nat} {b2:Bool} {pos2 W2:List Nat},V=W→Nx N L least rm pos V b2 pos2 W2→b=b2∧pos'=pos2∧W'=W2:=by
 induction h with
 |hit h1=>
  intro V b2 pos2 W2 hV h
  cases h with
  |hit _=>exact⟨rfl,rfl,hV.symm⟩
  |go k1 _ _ _ _=>rw[hV] at k1;exact absurd h1 k1
  |skip k1 _ _ _ _=>rw[hV] at k1;exact absurd h1 k1
  |back k1 _ _ _ _=>rw[hV] at k1;exact absurd h1 k1
  |stop k1 _ _=>rw[← hV] at h1;exact absurd h1 k1
 |@go pos W pos' W' r p b h1 h2 h3 h4 _ ih=>
  intro V b2 pos2 W2 hV h
  cases h with
  |hit k1=>rw[hV] at k1;exact absurd k1 h1
  |go k1 k2 k3 k4 k5=>
   subst hV
   rw[h2] at k2
   simp only[Option.some.injEq] at k2
   subst k2
   rw[h3] at k3
   simp only[Option.some.injEq] at k3
   subst k3
   exact ih rfl k5
  |skip k1 k2 k3 k4 k5=>
   subst hV
   rw[h2] at k2
   simp only[Option.some.injEq] at k2
   subst k2
   rw[h3] at k3
   simp only[Option.some.injEq] at k3
   subst k3
   omega
  |back k1 k2 k3 k4 k5=>
   subst hV
   rw[h2] at k2
   simp only[Option.some.injEq] at k2
   subst k2
   have:=(List.getElem?_eq_some_iff.1 h3).1
   omega
  |stop k1 k2 k3=>
   subst hV
   have h2':pos[N.src.toNat]?=some p:=h2
   rw[h2'] at k2
   simp only[Option.some.injEq] at k2
   subst k2
   have:=(List.getElem?_eq_some_iff.1 h3).1
   have h5:p<(L N.src.toNat).length:=this
   omega
 |@skip pos W pos' W' r p b h1 h2 h3 h4 _ ih=>
  intro V b2 pos2 W2 hV h
  cases h with
  |hit k1=>rw[hV] at k1;exact absurd k1 h1
  |go k1 k2 k3 k4 k5=>
   subst hV
   rw[h2] at k2
   simp only[Option.some.injEq] at k2
   subst k2
   rw[h3] at k3
   simp only[Option.some.injEq] at k3
   subst k3
   omega
  |skip k1 k2 k3 k4 k5=>
   subst hV
   rw[h2] at k2
   simp only[Option.some.injEq] at k2
   subst k2
   exact ih rfl k5
  |back k1 k2 k3 k4 k5=>
   subst hV
   rw[h2] at k2
   simp only[Option.some.injEq] at k2
   subst k2
   have:=(List.getElem?_eq_some_iff.1 h3).1
   omega
  |stop k1 k2 k3=>
   subst hV
   have h2':pos[N.src.toNat]?=some p:=h2
   rw[h2'] at k2
   simp only[Option.some.injEq] at k2
   subst k2
   have h5:p<(L N.src.toNat).length:=(List.getElem?_eq_some_iff.1 h3).1
   omega
 |@back pos W pos' W' r p q b h1 h2 h3 h4 _ ih=>
  intro V b2 pos2 W2 hV h
  cases h with
  |hit k1=>rw[hV] at k1;exact absurd k1 h1
  |go k1 k2 k3 k4 k5=>
   subst hV
   rw[h2] at k2
   simp only[Option.some.injEq] at k2
   subst k2
   have:=(List.getElem?_eq_some_iff.1 k3).1
   omega
  |skip k1 k2 k3 k4 k5=>
   subst hV
   rw[h2] at k2
   simp only[Option.some.injEq] at k2
   subst k2
   have:=(List.getElem?_eq_some_iff.1 k3).1
   omega
  |@back _ W2' _ _ r2 p2 q2 _ k1 k2 k3 k4 k5=>
   obtain⟨e1,e2⟩:=List.append_inj' hV rfl
   subst e1
   simp only[List.cons.injEq,and_true] at e2
   subst e2
   rw[h4] at k4
   simp only[Option.some.injEq] at k4
   subst k4
   exact ih rfl k5
  |stop k1 k2 k3=>
   exact absurd hV (by simp)
 |stop h1 h2 h3=>
  intro V b2 pos2 W2 hV h
  cases h with
  |hit k1=>rw[hV] at k1;exact absurd k1 h1
  |go k1 k2 k3 k4 k5=>
   subst hV
   have h2':=k2
   rw[show cE N []=N.src.toNat from rfl,h2] at h2'
   simp only[Option.some.injEq] at h2'
   subst h2'
   have h5:=(List.getElem?_eq_some_iff.1 k3).1
   rw[show cE N []=N.src.toNat from rfl] at h5
   omega
  |skip k1 k2 k3 k4 k5=>
   subst hV
   have h2':=k2
   rw[show cE N []=N.src.toNat from rfl,h2] at h2'
   simp only[Option.some.injEq] at h2'
   subst h2'
   have h5:=(List.getElem?_eq_some_iff.1 k3).1
   rw[show cE N []=N.src.toNat from rfl] at h5
   omega
  |back k1 k2 k3 k4 k5=>exact absurd hV (by simp)
  |stop _ _ _=>exact⟨rfl,rfl,rfl⟩
theorem Bl.uniq {N:bt} {L:Nat→List Nat} {least:Int} (hsn:N.src.toNat≠N.snk.toNat) {rm rm':List Int} {pos W:List Nat} {ws:List (List Nat×Int)} (h:Bl N L least rm pos W ws rm'):∀ {ws2:List (List Nat×Int)} {rm2:List Int},Bl N L least rm pos W ws2 rm2→ws=ws2∧rm'=rm2:=by
 induction h with
 |stop h1=>
  intro ws2 rm2 h
  cases h with
  |stop _=>exact⟨rfl,rfl⟩
  |walk k1 _=>have:=(h1.uniq hsn rfl k1).1;cases this
 |walk h1 _ ih=>
  intro ws2 rm2 h
  cases h with
  |stop k1=>have:=(h1.uniq hsn rfl k1).1;cases this
  |walk k1 k2=>
   obtain⟨_,e1,e2⟩:=h1.uniq hsn rfl k1
   subst e1
   subst e2
   obtain⟨e3,e4⟩:=ih k2
   exact⟨by rw[e3],e4⟩
theorem gi.uniq {N:bt} (hR:N.Right) {least:Int} {f f1 f2:List Int} {ws1 ws2:List (List Nat×Int)} (h1:gi N least f ws1 f1) (h2:gi N least f ws2 f2):ws1=ws2∧f1=f2:=by
 have hsr:=hR.src
 have hsk:=hR.snk
 have hdf:=hR.diff
 obtain⟨lv1,a1,a2,a3⟩:=h1
 obtain⟨lv2,b1,b2,b3⟩:=h2
 obtain rfl:lv1=lv2:=by
  have hu:=i4 a1 b1
  have hl:lv1.length=lv2.length:=by rw[a1.len,b1.len]
  apply List.ext_getElem?
  intro i
  by_cases hi:i<lv1.length
  ·have:=hu i
   unfold bT at this
   rw[List.getD_eq_getElem?_getD,List.getD_eq_getElem?_getD,List.getElem?_eq_getElem hi,List.getElem?_eq_getElem (by omega)] at this
   rw[List.getElem?_eq_getElem hi,List.getElem?_eq_getElem (by omega)]
   simpa using this
  ·rw[List.getElem?_eq_none (by omega),List.getElem?_eq_none (by omega)]
 obtain⟨e1,e2⟩:=a3.uniq (by omega) b3
 exact⟨e1,pG a2.len b2.len e2⟩
end Go.Proofs.YtpbmihpjgjbndaaGreat
