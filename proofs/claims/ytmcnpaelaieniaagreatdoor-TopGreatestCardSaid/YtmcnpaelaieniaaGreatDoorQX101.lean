import Derived.Test.YtmcnpaelaieniaaGreatDoorQX92
/- A part of the proof; see NOTES.md. -/
set_option linter.unusedVariables false
set_option linter.unusedSimpArgs false
namespace Go.Proofs.YtmcnpaelaieniaaGreatDoor
open Go.RowKit
def D2(N:aU)(f:LI)(least:Int)(v:Value)(H':Heap):Prop:=
 (aK N f/\1<=least/\∃ (lv:LI) (A':OA) (c':Nat),ec N (aP (N.arcs.zip f)) least lv/\v=.tuple #[.slice A' (cm N (aP (N.arcs.zip f)) least lv (2*N.arcs.length)).length c',.int .i64 0]/\
  H'=[.own (.slice A' (cm N (aP (N.arcs.zip f)) least lv (2*N.arcs.length)).length c') 3 1 (cm N (aP (N.arcs.zip f)) least lv (2*N.arcs.length)).length (ax ((cm N (aP (N.arcs.zip f)) least lv (2*N.arcs.length)).map λ (i:Nat)=>(i:Int)))])\/
 (¬ aK N f/\v=.tuple #[.slice none 0 0,.int .i64 (en N f)]/\H'=[])\/(aK N f/\least<1/\v=.tuple #[.slice none 0 0,.int .i64 3]/\H'=[])
def FH(N:aU)(f:LI)(least:Int)(v:Value)(H':Heap):Prop:=
 (aK N f/\1<=least/\∃ (lv:LI),ec N (aP (N.arcs.zip f)) least lv/\v=tj (cM lv N.snk.toNat,0)/\H'=[])\/
 (¬ aK N f/\v=tj (0,en N f)/\H'=[])\/(aK N f/\least<1/\v=tj (0,3)/\H'=[])
theorem uq{N:aU}{rm:LI}{least:Int}{lv:LI}(k:Nat):cm N rm least lv (k+1)=cm N rm least lv k++(if least<=rm.getD k 0/\cM lv (dC N k)≠-1/\cM lv (eV N k)=cM lv (dC N k)+1 then [k] else []):=by
 unfold cm;rw[Ir,Im]
 congr 1
 by_cases h:least<=rm.getD k 0/\cM lv (dC N k)≠-1/\cM lv (eV N k)=cM lv (dC N k)+1
 ·rw[if_pos h,H6,if_pos (Ii h)];rfl
 ·rw[if_neg h,H6,if_neg (by simpa using h)];rfl
theorem jf(N:aU)(rm:LI)(least:Int)(lv:LI)(k:Nat):(cm N rm least lv k).length<=k:=by
 unfold cm;exact HG (HI _ _) (by simp)
theorem oV(N:aU)(hN:N.Fits)(hR:N.Right)(A:OA)(c b o:Nat)(hA:N.arcs≠[]->A=some ⟨b,o,none⟩)(f:LI)(F:OA)(cf bf of:Nat)(hF:f≠[]->F=some ⟨bf,of,none⟩)(hf:∀ x∈f,dn x)(hfl:f.length*8<=140737488351232)(least:Int):
 Fn 74 [bp N A c,.slice F f.length cf,.int .i64 least] [] [.seg b o (arcs N.arcs),.seg bf of (ax f)] (FH N f least):=by
 have hnn:=hR.nodes;have hsk:=hR.snk;obtain⟨n,hn⟩:∃ n:Nat,N.nodes=n:=⟨N.nodes.toNat,by omega⟩;refine aJ Tryz.func74 rfl rfl λ w0=>?_;refine ad (aa ?_);refine bx (cs:=bI N A c) rfl rfl rfl (λ _=>rfl) λ p=>?_;refine ae [] rfl ?_;refine ad (aa ?_);refine ab [] (v:=bp N A c) (af 0 rfl) rfl ?_;refine ah [] rfl ?_;refine ap [] (qY N hN hR A c b o hA f F cf bf of hF hf hfl least n hn) rfl (by kernel_rfl) ⟨⟨1,_,by simp,rfl,ak _ _ _,av⟩,⟨2,_,by simp,rfl,ak _ _ _,av⟩,an⟩ (λ _=>rfl) ?_;rintro v H' (⟨hW,hle,lv,g,hlv,rfl,rfl⟩|⟨hW,rfl,rfl⟩|⟨hW,hle,rfl,rfl⟩)
 case inr.inl=>
  refine⟨rfl,?_⟩;refine ae [] rfl ?_;refine ad (ad (aa (ae [] rfl ?_)));refine aC rfl (λ h=>?_) (λ h=>absurd (cU.1 (GK.1 h)) hW);refine ad (aa (ae [] rfl ?_));refine az [] (by decide) rfl (ay ⟨_,rfl,.inr (.inl ⟨hW,rfl,rfl⟩)⟩)
 case inr.inr=>
  refine⟨rfl,?_⟩;refine ae [] rfl ?_;refine ad (ad (aa (ae [] rfl ?_)));refine aC rfl (λ h=>?_) (λ h=>absurd h (by decide));refine ad (aa (ae [] rfl ?_));refine az [] (by decide) rfl (ay ⟨_,rfl,.inr (.inr ⟨hW,hle,rfl,rfl⟩)⟩)
 refine⟨rfl,?_⟩;refine ae [] rfl ?_;refine ad (ad (aa (ae [] rfl ?_)));refine aC rfl (λ h=>absurd rfl h) (λ _=>aq ?_);have hll:=hlv.len;refine ad (aa (ah [] rfl ?_))
 (first|refine ab [] (af 0 rfl) rfl ?_|refine ab [] (af 1 rfl) rfl ?_|refine ab [] (af 2 rfl) rfl ?_|refine ab [] (af 3 rfl) rfl ?_|refine ab [] (af 4 rfl) rfl ?_|refine ab [] (af 5 rfl) rfl ?_|refine ab [] (af 6 rfl) rfl ?_|refine ab [] (af 7 rfl) rfl ?_)
 refine aI 22 (v':=.int .i64 ((N.snk.toNat:Nat):Int)) rfl (Gt (Value.int .i64) (by omega)) ?_;refine ab [] (aG rfl (by omega)) rfl ?_;refine ab [] (aD 0 rfl rfl rfl (be (kp (by omega)))) rfl ?_;refine ae [] rfl ?_;refine az [] (by decide) rfl (ay ⟨_,rfl,.inl ⟨hW,hle,lv,hlv,rfl,rfl⟩⟩)
set_option maxHeartbeats 1000000 in
theorem uw(N:aU)(hN:N.Fits)(hR:N.Right)(A:OA)(c b o:Nat)(hA:N.arcs≠[]->A=some ⟨b,o,none⟩)(f:LI)(F:OA)(cf bf of:Nat)(hF:f≠[]->F=some ⟨bf,of,none⟩)(hf:∀ x∈f,dn x)(hfl:f.length*8<=140737488351232)(least:Int):
 Fn 224 [bp N A c,.slice F f.length cf,.int .i64 least] [] [.seg b o (arcs N.arcs),.seg bf of (ax f)] (D2 N f least):=by
 have hnn:=hR.nodes;have hsk:=hR.snk;have hl2:=hR.len;obtain⟨n,hn⟩:∃ n:Nat,N.nodes=n:=⟨N.nodes.toNat,by omega⟩;refine aJ Tryz.func224 rfl rfl λ w0=>?_;refine ad (aa ?_);refine bx (cs:=bI N A c) rfl rfl rfl (λ _=>rfl) λ p=>?_;refine ae [] rfl ?_;refine ad (aa ?_);refine ab [] (v:=bp N A c) (af 0 rfl) rfl ?_;refine ah [] rfl ?_;refine ap [] (qY N hN hR A c b o hA f F cf bf of hF hf hfl least n hn) rfl (by kernel_rfl) ⟨⟨1,_,by simp,rfl,ak _ _ _,av⟩,⟨2,_,by simp,rfl,ak _ _ _,av⟩,an⟩ (λ _=>rfl) ?_;rintro v H' (⟨hW,hle,lv,g,hlv,rfl,rfl⟩|⟨hW,rfl,rfl⟩|⟨hW,hle,rfl,rfl⟩)
 case inr.inl=>
  refine⟨rfl,?_⟩;refine ae [] rfl ?_;refine ad (ad (aa (ae [] rfl ?_)));refine aC rfl (λ h=>?_) (λ h=>absurd (cU.1 (GK.1 h)) hW);refine ad (aa (ae [] rfl ?_));refine az [] (by decide) rfl (ay ⟨_,rfl,.inr (.inl ⟨hW,rfl,rfl⟩)⟩)
 case inr.inr=>
  refine⟨rfl,?_⟩;refine ae [] rfl ?_;refine ad (ad (aa (ae [] rfl ?_)));refine aC rfl (λ h=>?_) (λ h=>absurd h (by decide));refine ad (aa (ae [] rfl ?_));refine az [] (by decide) rfl (ay ⟨_,rfl,.inr (.inr ⟨hW,hle,rfl,rfl⟩)⟩)
 refine⟨rfl,?_⟩;refine ae [] rfl ?_;refine ad (ad (aa (ae [] rfl ?_)));refine aC rfl (λ h=>absurd rfl h) (λ _=>aq ?_);have hll:=hlv.len;refine ad (aa ?_);refine ab [] (v:=bp N A c) (af 1 rfl) rfl ?_;refine ah [] rfl ?_;refine ap [] (mH N hN hR A c b o hA f F cf bf of hF hf hfl) rfl (by kernel_rfl) ⟨⟨2,_,by simp,rfl,ak _ _ _,av⟩,⟨3,_,by simp,rfl,ak _ _ _,av⟩,an⟩ (λ _=>rfl) ?_;rintro v H' (⟨_,A1,c1,rfl,rfl⟩|⟨h,_,_⟩)
 case inr=>exact absurd hW h
 refine⟨rfl,?_⟩;refine ae [] rfl ?_;unfold D2;obtain⟨rm,hrm⟩:∃ rm,rm=aP (N.arcs.zip f):=⟨_,rfl⟩;have hrl:rm.length=2*N.arcs.length:=by rw[hrm,cL,HS,hW.len,Ib]
 rw[<- hrm] at hlv ⊢;refine ad (aa (ae [] rfl ?_));refine ad (ad (aa (ae [] rfl ?_)));refine cd 3 1 ?_;refine au ?_
 refine bO (σ:=Nat×OA×Nat) (λ s=>[(35,.int .i64 s.1),(34,.int .i64 ((2*N.arcs.length:Nat):Int)),(33,.slice A1 (2*N.arcs.length) c1),(12,.slice s.2.1 (cm N rm least lv s.1).length s.2.2),(8,.slice (some ⟨g,0,none⟩) (n+1) (n+1)),(3,.pointer (some ⟨p,0,none⟩)),(2,.int .i64 least)])
  (λ s=>[.own (.slice s.2.1 (cm N rm least lv s.1).length s.2.2) 3 1 (cm N rm least lv s.1).length (ax ((cm N rm least lv s.1).map λ (i:Nat)=>(i:Int))),.own (.slice A1 (2*N.arcs.length) c1) 2 1 (2*N.arcs.length) (ax rm),.own (.slice (some ⟨g,0,none⟩) (n+1) (n+1)) 3 1 (n+1) (ax lv),blk p 33 (bI N A c),.seg b o (arcs N.arcs)])
  (λ s=>s.1<=2*N.arcs.length) (λ s=>2*N.arcs.length-s.1) (0,none,0) [0,1,2,3,4] ⟨rfl,rfl,rfl,rfl,rfl,rfl,rfl,an⟩ (by decide) rfl (GB _) ?_
 rintro⟨k,A2,c2⟩ hk;simp only at hk ⊢;have hkl:=jf N rm least lv k;refine bh (aW 1 rfl) λ ⟨_,_,hA1,_⟩=>?_;refine ad (aa (ae [] rfl ?_));refine ad (aC rfl (λ hlt=>aq ?_) (λ hge=>bc ?_))
 ·have hlt:k<2*N.arcs.length:=by omega
  obtain⟨g1,rfl⟩:=hA1 (by omega);obtain⟨te,htn1,htn2⟩:=gU hR hlt;obtain⟨fe,hfn1,hfn2⟩:=kn hR hlt;obtain⟨x,hxr⟩:∃ x,rm[k]?=some x:=⟨rm[k]'(by omega),Gq (by omega)⟩;have hxd:rm.getD k 0=x:=by rw[Gw,hxr];rfl
  have hws:=uq (N:=N) (rm:=rm) (least:=least) (lv:=lv) k;obtain⟨t,ht⟩:∃ t,eV N k=t:=⟨_,rfl⟩;obtain⟨u,hu⟩:∃ u,dC N k=u:=⟨_,rfl⟩;rw[ht] at te htn1 htn2 hws;rw[hu] at fe hfn1 hfn2 hws;have hru:=hlv.rng u;have hnext:IntKind.i64.wrap ((k:Int)+1)=((k+1:Nat):Int):=cv (by omega);refine ad (au ?_);refine ad (aa (ah [] rfl ?_));refine ab [] (aG rfl hlt) rfl ?_;refine ab [] (aD 1 rfl rfl rfl (bD hxr)) rfl ?_;refine ae [] rfl ?_;refine ad (aa ?_);refine ab [] (v:=bp N A c) (af 3 rfl) rfl ?_;refine ah [] rfl ?_;refine ap [] (gC N A c b o hA hl2 k hlt) rfl (by kernel_rfl) ⟨⟨4,_,by simp,rfl,ak _ _ _,av⟩,an⟩ (λ _=>rfl) ?_;rintro v' H' ⟨rfl,rfl⟩;refine⟨rfl,?_⟩;refine ae [] rfl ?_;refine a7 15 (v':=.int .i64 (u:Int)) rfl (Gt (Value.int .i64) fe) ?_;refine a7 16 (v':=.int .i64 (t:Int)) rfl (Gt (Value.int .i64) te) ?_
  refine fj [(67,.bool (di (least<=rm.getD k 0/\cM lv u≠-1/\cM lv t=cM lv u+1))),(35,.int .i64 k),(34,.int .i64 ((2*N.arcs.length:Nat):Int)),(33,.slice (some ⟨g1,0,none⟩) (2*N.arcs.length) c1),(13,.int .i64 k),(12,.slice A2 (cm N rm least lv k).length c2),(8,.slice (some ⟨g,0,none⟩) (n+1) (n+1)),(3,.pointer (some ⟨p,0,none⟩)),(2,.int .i64 least)]
   [.own (.slice A2 (cm N rm least lv k).length c2) 3 1 (cm N rm least lv k).length (ax ((cm N rm least lv k).map λ (i:Nat)=>(i:Int))),.own (.slice (some ⟨g1,0,none⟩) (2*N.arcs.length) c1) 2 1 (2*N.arcs.length) (ax rm),.own (.slice (some ⟨g,0,none⟩) (n+1) (n+1)) 3 1 (n+1) (ax lv),blk p 33 (bI N A c),.seg b o (arcs N.arcs)] ?_ ?_
  ·skip
   refine bu 22 (cZ [0,1,2,3,4,5,6,7,8,9,10,11,12,13,14,15,16,17,18,19,20,21]) [2] (by kernel_rfl) (by decide) rfl ?_;refine aB [] rfl ?_;by_cases h1:least<=x
   ·refine sn 49 rfl h1 ?_;refine aB [3] rfl ?_;refine aj [3] rfl (aG rfl (by omega)) rfl ?_;refine aj [3] rfl (aD 0 rfl rfl rfl (be (kp (by omega)))) rfl ?_;refine aB [3] rfl ?_;by_cases h2:cM lv u=-1
    ·refine j8 56 rfl (λ h=>h h2) ?_;refine dw [10] rfl ?_;refine ai ⟨[0,1,2,3,4],⟨Gt some (Gt Value.bool (a6 (λ h=>h.2.1 h2)).symm),rfl,rfl,rfl,rfl,rfl,rfl,rfl,rfl,an⟩,by decide,rfl⟩
    ·refine sn 56 rfl h2 ?_;refine aB [10] rfl ?_;refine aj [10] rfl (aG rfl (by omega)) rfl ?_;refine aj [10] rfl (aD 0 rfl rfl rfl (be (kp (by omega)))) rfl ?_;refine aB [10] rfl ?_;refine aj [10] rfl (aG rfl (by omega)) rfl ?_;refine aj [10] rfl (aD 0 rfl rfl rfl (be (kp (by omega)))) rfl ?_;refine aB [10] rfl ?_;refine dw [10] rfl ?_;have hw:IntKind.i64.wrap (cM lv u+1)=cM lv u+1:=cv (by omega);refine ai ⟨[0,1,2,3,4],⟨Gt some (Gt Value.bool (ey ⟨λ h=>⟨by omega,h2,by rw[hw] at h;exact h⟩,λ h=>by rw[hw];exact h.2.2⟩)),rfl,rfl,rfl,rfl,rfl,rfl,rfl,rfl,an⟩,by decide,rfl⟩
   ·refine j8 49 rfl h1 ?_;refine dw [3,10] rfl ?_;refine ai ⟨[0,1,2,3,4],⟨Gt some (Gt Value.bool (a6 (λ h=>h1 (by omega))).symm),rfl,rfl,rfl,rfl,rfl,rfl,rfl,rfl,an⟩,by decide,rfl⟩
  ·refine aC rfl (λ hgo=>?_) (λ hno=>aq ?_)
   ·rw[if_pos hgo] at hws;refine aa (ah [] rfl ?_);refine bF rfl rfl rfl rfl rfl rfl rfl (λ _=>rfl) λ g4=>?_;refine bv (n:=(cm N rm least lv k).length) (m:=1) (off:=0) (news:=ax [(k:Int)]) 1 0 rfl rfl rfl rfl rfl rfl (by decide) rfl rfl (aF g4 _ _ (0,0)) (λ _=>rfl) rfl rfl (by omega) (by omega) (λ _ _=>rfl) λ A4 c4=>?_;rw[show (cm N rm least lv k).length+1=(cm N rm least lv (k+1)).length by rw[hws];simp,show ax ((cm N rm least lv k).map λ (i:Nat)=>(i:Int))++ax [(k:Int)]=ax ((cm N rm least lv (k+1)).map λ (i:Nat)=>(i:Int)) by rw[hws];simp[ax]];refine ae [] rfl ?_;refine aa (ae [] rfl ?_);exact⟨(k+1,A4,c4),[1,2,3,4,5],⟨Gt some (Gt (Value.int .i64) hnext),rfl,rfl,rfl,rfl,rfl,rfl,an⟩,by decide,rfl,by simp only;omega,by simp only;omega⟩
   ·rw[if_neg hno,G5] at hws;refine aa (ae [] rfl ?_);refine⟨(k+1,A2,c2),[0,1,2,3,4],⟨Gt some (Gt (Value.int .i64) hnext),rfl,rfl,by simp only[hws];rfl,rfl,rfl,rfl,an⟩,by decide,by simp only[hws];rfl,by simp only;omega,by simp only;omega⟩
 ·obtain rfl:k=2*N.arcs.length:=by omega
  refine ad (aa (ae [] rfl ?_));exact az [0] (by decide) rfl (ay ⟨_,rfl,.inl ⟨hW,hle,lv,A2,c2,hlv,rfl,rfl⟩⟩)
def sp(N:aU)(A:OA)(c:Nat)(Ar:OA)(cr:Nat)(least:Int)(gl n:Nat)(Aw:OA)(nw cw:Nat):LV_:=
 [.int .i64 N.nodes,.int .i64 N.src,.int .i64 N.snk,.slice A N.arcs.length c,.slice Ar (2*N.arcs.length) cr,.int .i64 least,.slice (some ⟨gl,0,none⟩) (n+1) (n+1),.slice Aw nw cw]
def bS(W:LN):LV_:=ax (W.map λ (i:Nat)=>(i:Int))
theorem dl{W:LN}{k r:Nat}(h:W[k]?=some r):(bS W)[k]?=some (.int .i64 (r:Int)):=dx (by rw[GC,h];rfl)
theorem eq(W:LN):(bS W).length=W.length:=by unfold bS;rw[bK,GA]
theorem iL{W:LN}(h:W≠[]):bS W≠[]:=λ h0=>h (GM.1 (by have:=eq W;rw[h0] at this;exact this.symm))
theorem kW(W:LN)(r:Nat):bS W++ax [(r:Int)]=bS (W++[r]):=by simp[bS,ax]
theorem rX(N:aU)(hR:N.Right)(A:OA)(c b o:Nat)(hA:N.arcs≠[]->A=some ⟨b,o,none⟩)(pw:Nat)(Ar:OA)(cr:Nat)(least:Int)(gl n:Nat)(W:LN)(hW:∀ r∈W,r<2*N.arcs.length)(hWl:W.length<=1000)(Aw:OA)(cw gw:Nat)(hAw:W≠[]->Aw=some ⟨gw,0,none⟩):
 Fn 228 [.pointer (some ⟨pw,0,none⟩)] [] [.seg pw 0 (sp N A c Ar cr least gl n Aw W.length cw),.seg b o (arcs N.arcs),.seg gw 0 (bS W)] λ v H'=>v=.int .i64 (cR N W:Nat)/\H'=[]:=by
 have hsr:=hR.src;refine aJ Tryz.func228 rfl rfl λ w0=>?_;refine ad (aa (ae [] rfl ?_));refine ad (ad (aa (ah [] rfl ?_)));refine ab [] (a8 (i:=7) (v:=.slice Aw W.length cw) 0 rfl rfl rfl) rfl ?_;refine ae [] rfl ?_;refine aC rfl (λ h0=>?_) (λ h0=>aq ?_)
 ·obtain rfl:W=[]:=GM.1 (by omega);refine ad (aa (ah [] rfl ?_));refine ab [] (a8 (i:=1) (v:=.int .i64 N.src) 0 rfl rfl rfl) rfl ?_;refine ae [] rfl ?_;refine az [] (by decide) rfl (ay ⟨_,rfl,Gt (Value.int .i64) ?_,rfl⟩);show N.src=((N.src.toNat:Nat):Int);omega
 ·have hpos:0<W.length:=by omega
  obtain⟨r,hr⟩:∃ r,W[W.length-1]?=some r:=⟨W[W.length-1]'(by omega),Gq (by omega)⟩;obtain rfl:=hAw (by rintro rfl;simp at hpos);have hrl:=hW r (Gu hr);have hlast:W.getLast?=some r:=by rw[List.getLast?_eq_getElem?];exact hr
  have hte:=gU hR hrl;refine ad ?_;refine bu 22 (cZ [0,1,2,3,4,5,6,7,8,9,10,11,12,13,14,15]++[(16,false)]++cZ [17,18,19,20,21]) [0,1,2] (by kernel_rfl) (by decide) rfl ?_;refine aB [] rfl ?_;refine aj [] rfl (a8 (i:=0) (v:=bp N A c) 0 rfl rfl rfl) rfl ?_;refine aB [] rfl ?_;refine aj [] rfl (a8 (i:=7) (v:=.slice (some ⟨gw,0,none⟩) W.length cw) 0 rfl rfl rfl) rfl ?_;refine aB [] rfl ?_;refine aj [] rfl (a8 (i:=7) (v:=.slice (some ⟨gw,0,none⟩) W.length cw) 0 rfl rfl rfl) rfl ?_;refine aB [] rfl ?_;refine eg 30 (v':=.int .i64 ((W.length-1:Nat):Int)) rfl (Gt (Value.int .i64) ((cv (by omega)).trans (by omega))) ?_;refine aj [] rfl (aG rfl (by omega)) rfl ?_;refine aj [] rfl (fm (i:=W.length-1) 2 rfl rfl rfl (GZ _).symm (dl hr)) rfl ?_;refine bg rfl ?_;refine ap [] (gC N A c b o hA hR.len r hrl) rfl (by kernel_rfl) ⟨⟨1,_,by simp,rfl,ak _ _ _,av⟩,an⟩ (λ _=>rfl) ?_;rintro v H' ⟨rfl,rfl⟩;refine⟨rfl,ai ⟨⟨[0,1,2],by decide,rfl⟩,?_⟩⟩;refine dw [] rfl ?_;refine ai ?_;refine ad (aa (ae [] rfl ?_));refine az [] (by decide) rfl (ay ⟨_,rfl,Gt (Value.int .i64) ?_,rfl⟩);rw[hte.1];unfold cR;rw[hlast]
structure oY (rows:List d9) (gv:Nat->Nat) (pos:LN) (vals:LV_):Prop where
 len:vals.length=rows.length
 at_:∀ (v:Nat) (row:d9) (q:Nat),rows[v]?=some row->pos[v]?=some q->∃ A' c',vals[v]?=some (.slice A' (row.l.length-q) c')/\row.l.length-q<=c'/\(q<row.l.length->A'=some ⟨gv v,q,none⟩)
theorem oY.bump{rows:List d9}{gv:Nat->Nat}{pos:LN}{vals:LV_}(h:oY rows gv pos vals){v q c':Nat}{row:d9}(hr:rows[v]?=some row)(hp:pos[v]?=some q)(hq:q<row.l.length)(hc:row.l.length-q<=c'):
 oY rows gv (pos.set v (q+1)) (vals.set v (.slice (gj (some ⟨gv v,q,none⟩) c' 1 1) (row.l.length-q-1) (c'-1))):=by
 have hvl:v<vals.length:=by rw[h.len];exact (Gv.1 hr).1
 refine⟨by rw[Ha];exact h.len,λ u ro p hu hpu=>?_⟩;by_cases e:v=u
 ·subst e;rw[hr] at hu;simp only[Gs] at hu;subst hu;rw[GH (Gv.1 hp).1] at hpu;simp only[Gs] at hpu;subst hpu;refine⟨_,c'-1,by rw[GH hvl,Nat.sub_sub],by omega,λ hlt=>?_⟩;have:=fT (A:=some ⟨gv v,q,none⟩) (c:=c') (l:=1) (n:=row.l.length-q) (sz:=1) (λ _=>rfl) hc (by omega);rw[this]
 ·rw[GJ e] at hpu ⊢;exact h.at_ u ro p hu hpu
def cI(L:Nat->LN)(n:Nat)(pos:LN):Nat:=((List.range (n+1)).map λ v=>(L v).length-pos.getD v 0).sum
theorem iX{f g:Nat->Nat}{v:Nat}:∀ {l:LN},l.Nodup->v∈l->(∀ u∈l,u≠v->f u=g u)->f v+1=g v->(l.map f).sum+1=(l.map g).sum
 |[],_,h,_,_=>by cases h
 |u::l,hn,hv,he,h1=>by
  obtain⟨h2,h3⟩:=GS.1 hn;simp only[GG,GT]
  rcases GD.1 hv with rfl|hv
  ·have:(l.map f)=l.map g:=HH λ w hw=>he w (by simp[hw]) (λ e=>h2 (e▸hw));rw[this];omega
  ·have:=iX h3 hv (λ w hw=>he w (by simp[hw])) h1;have:=he u (by simp) (λ e=>h2 (e▸hv));omega
theorem gi{L:Nat->LN}{n:Nat}{pos:LN}{v q:Nat}(hp:pos[v]?=some q)(hv:v<=n)(hq:q<(L v).length):cI L n (pos.set v (q+1))+1=cI L n pos:=by
 have hlt:=(Gv.1 hp).1;unfold cI;refine iX (v:=v) H5 (Hm.2 (by omega)) (λ u _ hu=>?_) ?_
 ·simp only[Gw];rw[GJ hu.symm]
 ·simp only[Gw];rw[GH hlt,hp];simp only[G1];omega
structure NS where
 pos:LN
 W:LN
 vals:LV_
 Aw:OA
 cw:Nat
def FJ(N:aU)(L:Nat->LN)(least:Int)(rm:LI)(rows:List d9)(gv:Nat->Nat)(A:OA)(c:Nat)(Ar:OA)(cr pw gl n:Nat)(pos W:LN)(v:Value)(H':Heap):Prop:=
 ∃ (bb:Bool) (s:NS),v=.bool bb/\Nx N L least rm pos W bb s.pos s.W/\PI N L least rm s.pos s.W/\oY rows gv s.pos s.vals/\
   H'=[blk pw 303 (sp N A c Ar cr least gl n s.Aw s.W.length s.cw),.own (.slice (some ⟨gl,0,none⟩) (n+1) (n+1)) 23 1 (n+1) s.vals,.own (.slice s.Aw s.W.length s.cw) 3 1 s.W.length (bS s.W)]++rows.map (aZ 3)
set_option maxHeartbeats 1000000 in
theorem DC(N:aU)(hR:N.Right)(A:OA)(c b o:Nat)(hA:N.arcs≠[]->A=some ⟨b,o,none⟩)(pw:Nat)(Ar:OA)(cr gr:Nat)(least:Int)(gl n:Nat)(hn:N.nodes=n)(L:Nat->LN)(lv:Nat->Int)(hG:eF N L lv)(hLl:∀ v,(L v).length<=4000)
 (rm:LI) (hrl:rm.length=2*N.arcs.length) (hAr:rm≠[]->Ar=some ⟨gr,0,none⟩) (rows:List d9) (hrows:rows.length=n+1) (hL:∀ (v:Nat) (row:d9),rows[v]?=some row->row.l=(L v).map λ (i:Nat)=>(i:Int))
 (gv:Nat->Nat) (hgv:∀ (v:Nat) (row:d9),rows[v]?=some row->ax row.l≠[]->row.A=some ⟨gv v,0,none⟩) (s:NS) (hI:PI N L least rm s.pos s.W) (hV:oY rows gv s.pos s.vals):
 Fn 226 [.pointer (some ⟨pw,0,none⟩)] (aL ([blk pw 303 (sp N A c Ar cr least gl n s.Aw s.W.length s.cw),.own (.slice (some ⟨gl,0,none⟩) (n+1) (n+1)) 23 1 (n+1) s.vals,.own (.slice s.Aw s.W.length s.cw) 3 1 s.W.length (bS s.W)]++rows.map (aZ 3)))
  ([.seg b o (arcs N.arcs),.seg gr 0 (ax rm)]++([blk pw 303 (sp N A c Ar cr least gl n s.Aw s.W.length s.cw),.own (.slice (some ⟨gl,0,none⟩) (n+1) (n+1)) 23 1 (n+1) s.vals,.own (.slice s.Aw s.W.length s.cw) 3 1 s.W.length (bS s.W)]++rows.map (aZ 3)))
  (FJ N L least rm rows gv A c Ar cr pw gl n s.pos s.W):=by
 have hnn:=hR.nodes;have hsr:=hR.src;have hsk:=hR.snk;have hdf:=hR.diff;have hl2:=hR.len
 have hmlen:∀ (pos W:LN),PI N L least rm pos W->W.length<=n/\cR N W<=n/\(∀ r∈W,r<2*N.arcs.length):=by
  intro pos W hI;have h1:=(na hG hI.on hI.mem).1;have h2:=hG.hi (cR N W);have h3:=hG.hi N.src.toNat;have hWr:∀ r∈W,r<2*N.arcs.length:=λ r hr=>(hG.ok _ _ (hI.mem r hr)).1;refine⟨by omega,?_,hWr⟩
  rcases Hn W with rfl|⟨W0,r,rfl⟩
  ·show N.src.toNat<=n;omega
  ·rw[Ho,mQ];have:=(gU hR (hWr r (by simp))).2.2;omega
 generalize hM:aL _=M
 refine aJ Tryz.func226 rfl rfl λ w0=>?_;show J _ _ _ _ ([_,_,_,_,_]++rows.map (aZ 3));refine ad (aa (ae [] rfl ?_));refine xe ?_;refine ad ?_;refine w9 ?_;refine ad (ad ?_);refine bh (aW 4 rfl) λ ⟨_,_,hAw0,hl0⟩=>?_;obtain⟨gw0,hAw0⟩:=bL hAw0 hl0;obtain⟨m1,m2,m3⟩:=hmlen _ _ hI;refine aa (ah [] rfl ?_);refine ap [] (rX N hR A c b o hA pw Ar cr least gl n s.W m3 (by omega) s.Aw s.cw gw0 (λ h=>hAw0 (iL h))) rfl (by kernel_rfl) ⟨⟨2,_,by simp,rfl,aF _ _ _ (0,0),.inr rfl⟩,⟨0,_,by simp,rfl,ak _ _ _,av⟩,⟨4,_,by simp,rfl,aE hAw0,aM hAw0⟩,an⟩ (λ _=>rfl) ?_;rintro v H' ⟨rfl,rfl⟩;refine⟨rfl,?_⟩;refine ae [] rfl ?_;refine au ?_
 clear m1 m2 m3 hAw0 hl0
 refine b6 (σ:=NS) (λ t=>[(3,.int .i64 (cR N t.W:Nat)),(0,.pointer (some ⟨pw,0,none⟩))])
  (λ t=>[.seg b o (arcs N.arcs),.seg gr 0 (ax rm),blk pw 303 (sp N A c Ar cr least gl n t.Aw t.W.length t.cw),.own (.slice (some ⟨gl,0,none⟩) (n+1) (n+1)) 23 1 (n+1) t.vals,.own (.slice t.Aw t.W.length t.cw) 3 1 t.W.length (bS t.W)]++rows.map (aZ 3))
  (λ t=>PI N L least rm t.pos t.W/\oY rows gv t.pos t.vals/\∀ bb p w,Nx N L least rm t.pos t.W bb p w->Nx N L least rm s.pos s.W bb p w)
  (λ t=>(n+2)*cI L n t.pos+(n+1-t.W.length)) s ⟨rfl,rfl,an⟩ aH.refl ⟨hI,hV,λ _ _ _ h=>h⟩ ?_
 rintro⟨pos,W,vals,Aw,cw⟩ ⟨hI,hV,hX⟩;simp only at hI hV hX ⊢;obtain⟨m1,m2,m3⟩:=hmlen _ _ hI;refine ad (ad (aa (ah [] rfl ?_)));refine ab [] (af (v:=.int .i64 N.snk) 2 rfl) rfl ?_;refine ae [] rfl ?_;refine aC rfl (λ hne=>aq ?_) (λ heq=>bc ?_)
 ·have hne':cR N W≠N.snk.toNat:=fun e=>hne (by omega);refine ad (au ?_);refine ad (au ?_)
  refine b6 (σ:=LN×LV_) (λ t=>[(3,.int .i64 (cR N W:Nat)),(0,.pointer (some ⟨pw,0,none⟩))])
   (λ t=>[.seg b o (arcs N.arcs),.seg gr 0 (ax rm),blk pw 303 (sp N A c Ar cr least gl n Aw W.length cw),.own (.slice (some ⟨gl,0,none⟩) (n+1) (n+1)) 23 1 (n+1) t.2,.own (.slice Aw W.length cw) 3 1 W.length (bS W)]++rows.map (aZ 3))
   (λ t=>PI N L least rm t.1 W/\oY rows gv t.1 t.2/\(∀ bb p w,Nx N L least rm t.1 W bb p w->Nx N L least rm s.pos s.W bb p w)/\cI L n t.1<=cI L n pos)
   (λ t=>cI L n t.1) (pos,vals) ⟨rfl,rfl,an⟩ aH.refl ⟨hI,hV,hX,GF _⟩ ?_
  rintro⟨pos2,vals2⟩ ⟨hI2,hV2,hX2,hrem2⟩;simp only at hI2 hV2 hX2 hrem2 ⊢;obtain⟨v,hv⟩:∃ v,cR N W=v:=⟨_,rfl⟩;rw[hv] at m2 hne' ⊢;obtain⟨row,hrow⟩:∃ row,rows[v]?=some row:=⟨rows[v]'(by omega),Gq (by omega)⟩;obtain⟨q,hq⟩:∃ q,pos2[v]?=some q:=⟨pos2[v]'(by have:=hI2.pl;omega),Gq (by have:=hI2.pl;omega)⟩;obtain⟨A',c',hval,hcc,hAv⟩:=hV2.at_ v row q hrow hq;have hrl':=hL v row hrow;have hrll:row.l.length=(L v).length:=by rw[hrl',GA]
  have hLv:=hLl v;refine ad (ad (aa (ah [] rfl ?_)));refine ab [] (af (v:=.slice (some ⟨gl,0,none⟩) (n+1) (n+1)) 2 rfl) rfl ?_;refine ah [] rfl ?_;refine ab [] (aG rfl (by omega)) rfl ?_;refine ab [] (aD (v:=.slice A' (row.l.length-q) c') 3 rfl rfl rfl hval) rfl ?_;refine ae [] rfl ?_;refine aC rfl (λ hpos=>aq ?_) (λ hemp=>bc ?_)
  ·have hqlt:q<row.l.length:=by omega
   obtain rfl:=hAv hqlt;obtain⟨r,hr⟩:∃ r,(L v)[q]?=some r:=⟨(L v)[q]'(by omega),Gq (by omega)⟩;have hry:row.l[q]?=some (r:Int):=by rw[hrl',GC,hr];rfl
   have hrlt:=(hG.ok _ _ (Gu hr)).1;obtain⟨x,hxr⟩:∃ x,rm[r]?=some x:=⟨rm[r]'(by omega),Gq (by omega)⟩;have hxd:rm.getD r 0=x:=by rw[Gw,hxr];rfl
   obtain rfl:=hAr (by intro h0;rw[h0] at hxr;simp at hxr)
   have hrowne:ax row.l≠[]:=by
    intro h0;have:row.l.length=0:=by rw[<- bK,h0];rfl
    omega
   have hrA:=hgv v row hrow hrowne;refine au (ad (aa (ah [] rfl ?_)));refine ab [] (af (v:=.slice (some ⟨gl,0,none⟩) (n+1) (n+1)) 2 rfl) rfl ?_;refine ah [] rfl ?_;refine ab [] (aG rfl (by omega)) rfl ?_;refine ab [] (aD (v:=.slice (some ⟨gv v,q,none⟩) (row.l.length-q) c') 3 rfl rfl rfl hval) rfl ?_;refine ab [] (bR (m:=0) rfl (by omega)) rfl ?_
   refine ab [] (dr (b:=gv v) (off:=q) (i:=0) (cs:=(ax row.l).drop q) (v:=.int .i64 (r:Int)) (c:=aZ 3 row) (v+5) rfl rfl (show (rows.map (aZ 3))[v]?=_ by rw[List.getElem?_map,hrow];rfl)
    (by have:=ep (aE (e:=3) (sz:=1) (n:=row.l.length) (cap:=row.c) (λ _=>hrA:ax row.l≠[]->row.A=some ⟨gv v,0,none⟩)) q;rw[GZ] at this;exact this)
    (by show ((ax row.l).drop q)[0]?=_;rw[Hu];exact dx hry)) rfl ?_
   refine ae [] rfl ?_;refine ad (ad ?_);refine bu 12 (cZ [0,1,2,3,4,5,6,7,8,9,10,11]) [1,2] (by kernel_rfl) (by decide) rfl ?_;refine aB [] rfl ?_;refine aj [] rfl (af (v:=.slice (some ⟨gr,0,none⟩) (2*N.arcs.length) cr) 1 rfl) rfl ?_;refine aB [] rfl ?_;refine aj [] rfl (aG rfl hrlt) rfl ?_;refine aj [] rfl (fm (i:=r) 0 rfl rfl rfl (GZ _).symm (bD hxr)) rfl ?_;refine aB [] rfl ?_;refine aj [] rfl (af (v:=.int .i64 least) 1 rfl) rfl ?_;refine dw [] rfl ?_;refine ai ?_;refine aC rfl (λ hge=>?_) (λ hlt=>aq ?_)
   ·have hI3:=hI2.go hG (by rw[hv];exact hq) (by rw[hv];exact hr) (by omega:least≤rm.getD r 0);obtain⟨w1,w2,w3⟩:=hmlen _ _ hI3;rw[List.length_append,List.length_singleton] at w1;refine ad (aa (ah [] rfl ?_));refine ab [] (af (v:=.slice Aw W.length cw) 2 rfl) rfl ?_;refine ah [] rfl ?_;refine bF rfl rfl rfl rfl rfl rfl rfl (fun _=>rfl) fun g4=>?_;refine bv (n:=W.length) (m:=1) (off:=0) (news:=ax [(r:Int)]) 5 0 rfl rfl rfl rfl rfl rfl (by decide) rfl rfl (aF g4 _ _ (0,0)) (fun _=>rfl) rfl rfl (by omega) (by omega) (fun _ _=>rfl) fun A4 c4=>?_;rw[show W.length+1=(W++[r]).length by simp,kW];refine ah [] rfl ?_;refine aA 3 rfl [] rfl ?_;refine ai ?_;show J _ _ _ _ ([_,_,_,_,_,_]++rows.map (aZ 3));refine bJ (aH.re [1,2,3,4,5] rfl (by decide)) ?_;refine bc ?_;refine bh (aW 4 rfl) fun ⟨_,_,hAwx,hlx⟩=>?_;obtain⟨gwx,hAwx⟩:=bL hAwx hlx;refine aa (ah [] rfl ?_);refine ap [] (rX N hR A c b o hA pw _ cr least gl n (W++[r]) w3 (by rw[List.length_append,List.length_singleton];omega) _ _ gwx (fun h=>hAwx (iL h))) rfl (by kernel_rfl) ⟨⟨2,_,by simp,rfl,aF _ _ _ (0,0),.inr rfl⟩,⟨0,_,by simp,rfl,ak _ _ _,av⟩,⟨4,_,by simp,rfl,aE hAwx,aM hAwx⟩,trivial⟩ (fun _=>rfl) ?_;rintro vx Hx ⟨rfl,rfl⟩;refine⟨rfl,?_⟩;refine ae [] rfl ?_
    exact⟨⟨pos2,W++[r],vals2,A4,c4⟩,⟨rfl,rfl,an⟩,aH.refl,⟨hI3,hV2,λ bb p w hx=>hX2 _ _ _ (.go (by rw[hv];exact hne') (by rw[hv];exact hq) (by rw[hv];exact hr) (by omega) hx)⟩,by
     simp only[Gx,G2];have:(n+2)*cI L n pos2<=(n+2)*cI L n pos:=Ih _ hrem2;omega⟩
   ·have hI3:=hI2.skip hG (by rw[hv];exact hq) (by rw[hv];exact hr) (by omega:rm.getD r 0<least);rw[hv] at hI3;have hbump:=gi (L:=L) (n:=n) hq m2 (by omega);refine bu 14 (cZ [0,1,2,3,4,5,6,7,8,9,10,11,12,13]) [2,3] (by kernel_rfl) (by decide) rfl ?_;refine aB [] rfl ?_;refine aj [] rfl (af (v:=.slice (some ⟨gl,0,none⟩) (n+1) (n+1)) 0 rfl) rfl ?_;refine aB [] rfl ?_;refine aj [] rfl (af (v:=.slice (some ⟨gl,0,none⟩) (n+1) (n+1)) 0 rfl) rfl ?_;refine aB [] rfl ?_;refine aj [] rfl (aG rfl (by omega)) rfl ?_;refine aj [] rfl (aD (v:=.slice (some ⟨gv v,q,none⟩) (row.l.length-q) c') 1 rfl rfl rfl hval) rfl ?_;refine aj [] rfl (dE (i:=1) rfl rfl rfl rfl rfl (by omega)) rfl ?_;refine aj [] rfl (aG rfl (by omega)) rfl ?_;refine bq ?_;refine aO 3 rfl rfl rfl rfl (df rfl rfl rfl (by rw[hV2.len];omega)) [] rfl ?_;refine ai ?_;exact⟨(pos2.set v (q+1),vals2.set v (.slice (gj (some ⟨gv v,q,none⟩) c' 1 1) (row.l.length-q-1) (c'-1))),⟨rfl,rfl,an⟩,aH.refl,⟨hI3,hV2.bump hrow hq hqlt hcc,λ bb p w hx=>hX2 _ _ _ (.skip (by rw[hv];exact hne') (by rw[hv];exact hq) (by rw[hv];exact hr) (by omega) (by rw[hv];exact hx)),by simp only;omega⟩,by simp only;omega⟩
  ·have hdead:(L v).length≤q:=by omega
   refine ad (aa (ah [] rfl ?_));refine ab [] (af (v:=.slice Aw W.length cw) 2 rfl) rfl ?_;refine ae [] rfl ?_;refine a7 5 (v':=.int .i64 ((W.length:Int)-1)) rfl (Gt (Value.int .i64) (cv (by omega))) ?_;refine ad (ad (aa (ae [] rfl ?_)));refine aC rfl (λ hz=>?_) (λ hz=>aq ?_)
   ·obtain rfl:W=[]:=List.length_eq_zero_iff.1 (by omega);refine ad (aa (ae [] rfl ?_));refine bJ (aH.re [2,3,4] rfl (by decide)) (ay ⟨_,rfl,false,⟨pos2,[],vals2,Aw,cw⟩,rfl,hX2 _ _ _ (.stop (by omega) (p:=q) ?_ ?_),hI2,hV2,rfl⟩)
    ·rw[show N.src.toNat=v from hv];exact hq
    ·rw[show N.src.toNat=v from hv];exact hdead
   ·rcases Hn W with rfl|⟨W0,r,rfl⟩
    ·simp at hz
    rw[Ho] at*;obtain⟨qu,hu1,hu2,hu3⟩:=hI2.back_at;have hI3:=hI2.back hG (by rw[hv];exact hne') (by rw[hv];exact hq) (by rw[hv];exact hdead) hu1;have hI0:=hI2.drop;obtain⟨y1,y2,y3⟩:=hmlen _ _ hI0;have hlen0:(W0++[r]).length=W0.length+1:=by simp
    obtain⟨u,hu⟩:∃ u,cR N W0=u:=⟨_,rfl⟩;rw[hu] at hu1 hu2 hu3 hI3 y2;obtain⟨rowu,hrowu⟩:∃ row,rows[u]?=some row:=⟨rows[u]'(by omega),Gq (by omega)⟩;obtain⟨Au,cu,hvalu,hccu,hAvu⟩:=hV2.at_ u rowu qu hrowu hu1;have hrlu:rowu.l.length=(L u).length:=by rw[hL u rowu hrowu,GA]
    have hqult:qu<rowu.l.length:=by rw[hrlu];exact (Gv.1 hu2).1
    obtain rfl:=hAvu hqult;have hLu:=hLl u;have hbump:=gi (L:=L) (n:=n) hu1 y2 (by omega);refine bh (aW 4 rfl) λ ⟨_,hcwl,_,_⟩=>?_;refine ad (aa (ah [] rfl ?_));refine ab [] (af (v:=.slice Aw (W0++[r]).length cw) 2 rfl) rfl ?_;refine ah [] rfl ?_;refine aI 85 (v':=.int .i64 (W0.length:Int)) rfl (Gt (Value.int .i64) (by omega)) ?_;refine ab [] (gF (i:=W0.length) rfl rfl rfl rfl rfl (by omega)) rfl ?_;refine ah [] rfl ?_;refine aA 2 rfl [] rfl ?_;refine ai ?_;refine bJ (aH.shrink (m:=W0.length) 4 rfl (by omega)) ?_;rw[G8,show (bS (W0++[r])).take W0.length=bS W0 by rw[<- kW,List.take_append_of_le_length (by rw[eq];omega),Hr (by rw[eq];omega)]];show J _ _ _ _ ([_,_,_,_,_]++rows.map (aZ 3));refine bh (aW 4 rfl) λ ⟨_,_,hAwx,hlx⟩=>?_;obtain⟨gwx,hAwx⟩:=bL hAwx hlx;refine ad (aa (ah [] rfl ?_));refine ap [] (rX N hR A c b o hA pw _ cr least gl n W0 y3 (by omega) _ _ gwx (λ h=>hAwx (iL h))) rfl (by kernel_rfl) ⟨⟨2,_,by simp,rfl,aF _ _ _ (0,0),.inr rfl⟩,⟨0,_,by simp,rfl,ak _ _ _,av⟩,⟨4,_,by simp,rfl,aE hAwx,aM hAwx⟩,an⟩ (λ _=>rfl) ?_;rintro vx Hx ⟨rfl,rfl⟩;refine⟨rfl,?_⟩;refine ae [] rfl ?_;show J _ _ _ _ ([_,_,_,_,_]++rows.map (aZ 3));refine a7 6 (v':=.int .i64 (u:Int)) rfl (Gt (Value.int .i64) (by rw[hu])) ?_;refine bu 14 (cZ [0,1,2,3,4,5,6,7,8,9,10,11,12,13]) [2,3] (by kernel_rfl) (by decide) rfl ?_;refine aB [] rfl ?_;refine aj [] rfl (af (v:=.slice (some ⟨gl,0,none⟩) (n+1) (n+1)) 0 rfl) rfl ?_;refine aB [] rfl ?_;refine aj [] rfl (af (v:=.slice (some ⟨gl,0,none⟩) (n+1) (n+1)) 0 rfl) rfl ?_;refine aB [] rfl ?_;refine aj [] rfl (aG rfl (by omega)) rfl ?_;refine aj [] rfl (aD (v:=.slice (some ⟨gv u,qu,none⟩) (rowu.l.length-qu) cu) 1 rfl rfl rfl hvalu) rfl ?_;refine aj [] rfl (dE (i:=1) rfl rfl rfl rfl rfl (by omega)) rfl ?_;refine aj [] rfl (aG rfl (by omega)) rfl ?_;refine bq ?_;refine aO 3 rfl rfl rfl rfl (df rfl rfl rfl (by rw[hV2.len];omega)) [] rfl ?_;refine ai ?_;show J _ _ _ _ ([_,_,_,_,_]++rows.map (aZ 3));refine bh (aW 4 rfl) λ ⟨_,_,hAwx,hlx⟩=>?_;obtain⟨gwx,hAwx⟩:=bL hAwx hlx;refine aa (ah [] rfl ?_);refine ap [] (rX N hR A c b o hA pw _ cr least gl n W0 y3 (by omega) _ _ gwx (λ h=>hAwx (iL h))) rfl (by kernel_rfl) ⟨⟨2,_,by simp,rfl,aF _ _ _ (0,0),.inr rfl⟩,⟨0,_,by simp,rfl,ak _ _ _,av⟩,⟨4,_,by simp,rfl,aE hAwx,aM hAwx⟩,an⟩ (λ _=>rfl) ?_;rintro vx Hx ⟨rfl,rfl⟩;refine⟨rfl,?_⟩;refine ae [] rfl ?_
    exact⟨⟨pos2.set u (qu+1),W0,vals2.set u (.slice (gj (some ⟨gv u,qu,none⟩) cu 1 1) (rowu.l.length-qu-1) (cu-1)),Aw,cw⟩,⟨rfl,rfl,an⟩,aH.refl,⟨hI3,hV2.bump hrowu hu1 hqult hccu,λ bb p w hx=>hX2 _ _ _ (.back (by rw[hv];exact hne') (by rw[hv];exact hq) (by rw[hv];exact hdead) (by rw[hu];exact hu1) (by rw[hu];exact hx))⟩,by
     simp only;have h1:(n+2)*cI L n pos2<=(n+2)*cI L n pos:=Ih _ hrem2;have h2:(n+2)*cI L n pos2=(n+2)*cI L n (pos2.set u (qu+1))+(n+2):=by rw[<- hbump,HF];omega
     omega⟩
 ·refine ad (aa (ae [] rfl ?_));refine bJ (aH.re [2,3,4] rfl (by decide)) (ay ⟨_,rfl,true,⟨pos,W,vals,Aw,cw⟩,rfl,hX _ _ _ (.hit (by omega)),hI,hV,rfl⟩)
end Go.Proofs.YtmcnpaelaieniaaGreatDoor
