import Derived.Test.YtmcnpaelaieniaaGreatDoorQX67
import Derived.Test.YtmcnpaelaieniaaGreatDoorQD
import Derived.Test.YtmcnpaelaieniaaGreatDoorQB
import Derived.Test.YtmcnpaelaieniaaGreatDoorQF
/- A part of the proof; see NOTES.md. -/
set_option linter.unusedVariables false
set_option linter.unusedSimpArgs false
namespace Go.Proofs.YtmcnpaelaieniaaGreatDoor
open Go.RowKit
theorem lf(l:LI)(k:Nat):ay (l.drop k)=(ay l).drop k:=by unfold ay;rw[List.map_drop]
theorem uo{l:LI}{k:Nat}(hk:k<=l.length)(h:∀ j x,j<k->l[j]?=some x->fS x=false):bF l=k+(l.drop k).findIdx fS:=by
 have e:l=l.take k++l.drop k:=(HD k l).symm;unfold bF
 conv=>lhs;rw[e,List.findIdx_append]
 have h1:(l.take k).findIdx fS=(l.take k).length:=IQ.2 λ x hx=>by
  obtain⟨j,hj⟩:=HJ.1 hx;have hjk:j<k:=by have:=(GC.1 hj).1;rw[G2] at this;omega
  rw[List.getElem?_take,if_pos hjk] at hj;exact h j x hjk hj
 rw[h1,if_neg (by omega),G2];omega
set_option maxHeartbeats 1000000 in
theorem u6(N:aO)(A:OA)(c:Nat)(left:LI)(hll:left.length<=2000)(Al:OA)(cl bl:Nat)(hcl:left.length<=cl)(hAl:left≠[]->Al=some ⟨bl,0,none⟩)(val:Int)(Ao:OA)(no co:Nat)(k:Nat)(hk:k<=left.length)(hbef:∀ j x,j<k->left[j]?=some x->fS x=false)(pw:Nat):
 Fn 178 [.pointer (some ⟨pw,0,none⟩)] (aJ [blk pw 256 (lH N A c Al left.length cl val Ao no co (k:Int))]) ([.seg bl 0 (ay left)]++[blk pw 256 (lH N A c Al left.length cl val Ao no co (k:Int))]) λ v H'=>v=.bool (dk (bF left<left.length))/\H'=[blk pw 256 (lH N A c Al left.length cl val Ao no co (bF left:Nat))]:=by
 generalize hM:aJ _=M
 refine aH Tryz.func178 rfl rfl λ w0=>?_;have hfd:=uo hk hbef;have hfl:bF left<=left.length:=by unfold bF;exact List.findIdx_le_length
 refine ad (aa (ae [] rfl ?_));refine ad ?_;refine bq 17 (cY [0,1,2,3,4,5,6,7,8,9,10,11,12]++[(13,false)]++cY [14,15,16]) [0,1] (by kernel_rfl) (by decide) rfl ?_;refine az [] rfl ?_;refine aj [] (v:=.int .i64 (k:Int)) rfl (af 1 rfl) rfl ?_;refine az [] rfl ?_;refine aj [] (v:=.slice Al left.length cl) rfl (af 1 rfl) rfl ?_;refine az [] rfl ?_;refine aj [] (v:=.int .i64 (k:Int)) rfl (af 1 rfl) rfl ?_;refine aj [] rfl (dJ (i:=k) rfl rfl rfl rfl rfl hk) rfl ?_;refine az [] rfl ?_;refine aY rfl ?_;have hdl:(left.drop k).length=left.length-k:=HG
 have TP:=vu (gb Al cl k 1) (cl-k) bl k (left.drop k) (λ hne=>by
  have hlt:k<left.length:=by
   refine Hn λ h=>hne (List.drop_eq_nil_iff.2 (by omega))
  have:=fO (A:=Al) (c:=cl) (l:=k) (n:=left.length) (sz:=1) (b:=bl) (o:=0) (λ _=>hAl (by rintro rfl;simp at hlt)) hcl hlt;rw[this];simp) (by omega)
 rw[hdl,lf] at TP;refine cL (fst:=[]) (cap:=[]) [] TP rfl rfl rfl rfl (by kernel_rfl) ⟨⟨0,_,by simp,rfl,by have:=ex (ak bl 0 (ay left)) k;rw[G6] at this;exact this,(show ay left=[]\/(aR.seg bl 0 (ay left)).at_=some bl from au).imp (λ h=>by rw[h,List.drop_nil]) id⟩,an⟩ (λ _=>rfl) ?_;rintro v H' ⟨rfl,rfl⟩;refine⟨rfl,?_⟩;refine ai ⟨⟨[0,1],by decide,rfl⟩,?_⟩;refine dy [] rfl ?_;refine aI 17 (v':=.int .i64 ((bF left:Nat):Int)) rfl (Gz (Value.int .i64) (by rw[b5 (by omega)];omega)) ?_;refine aB 1 rfl [] rfl ?_;refine ai ?_;refine ad ?_;refine bq 11 (cY [0,1,2,3,4,5,6,7,8,9,10]) [0,1] (by kernel_rfl) (by decide) rfl ?_;refine az [] rfl ?_;refine aj [] (v:=.int .i64 ((bF left:Nat):Int)) rfl (af 1 rfl) rfl ?_;refine az [] rfl ?_;refine aj [] (v:=.slice Al left.length cl) rfl (af 1 rfl) rfl ?_;refine dy [] rfl ?_;refine ai ?_;refine aA [1] (by decide) rfl (ax ⟨_,rfl,Gz Value.bool (em (by omega)),rfl⟩)
theorem Dp(px pn:Nat)(Ax An:OA)(lx cx ln cn:Nat):Fn 132 [.pointer (some ⟨px,0,none⟩),.pointer (some ⟨pn,0,none⟩)] (aJ [blk px 23 [.slice Ax lx cx],blk pn 23 [.slice An ln cn]])
 ([]++[blk px 23 [.slice Ax lx cx],blk pn 23 [.slice An ln cn]]) λ v H'=>v=.bool (dk (0<lx))/\H'=[blk px 23 [.slice An 0 cn],blk pn 23 [.slice Ax lx cx]]:=by
 refine aH Tryz.func132 rfl rfl λ w0=>?_;refine ad (aa (ae [] rfl ?_));refine eS [(0,.pointer (some ⟨px,0,none⟩)),(1,.pointer (some ⟨pn,0,none⟩))] [blk px 23 [.slice An 0 cn],blk pn 23 [.slice Ax lx cx]] ?_ ?_
 ·refine FX ?_
  (repeat' (first|exact an|refine CQ (by decide+kernel) ⟨[0,1],⟨rfl,rfl,an⟩,by decide,rfl⟩|refine i6 0 [1] (by decide+kernel) ?_|refine i6 0 [2] (by decide+kernel) ?_|refine i6 2 [3] (by decide+kernel) ?_|refine i6 0 [] (by decide+kernel) ?_|refine i6 1 [] (by decide+kernel) ?_|refine i6 2 [] (by decide+kernel) ?_|refine i6 3 [] (by decide+kernel) ?_|refine i6 4 [] (by decide+kernel) ?_|refine⟨⟨_,rfl,?_⟩,?_⟩|refine ab [] (af 0 rfl) rfl ?_|refine ab [] (af 1 rfl) rfl ?_|refine ab [] (gH (i:=0) rfl rfl rfl rfl rfl (GI _)) rfl ?_|refine aB 1 rfl [] rfl ?_|refine aB 0 rfl [] rfl ?_|refine ai ?_))
 refine ad (aa (ah [] rfl ?_));refine ab [] (af 1 rfl) rfl ?_;refine ae [] rfl ?_;refine aA [0,1] (by decide) rfl (ax ⟨_,rfl,Gz Value.bool (em (by omega)),rfl⟩)
def Gf(N:aO)(f:LI)(least:Int)(n:Nat)(v:Value)(H':Heap):Prop:=
 (aK N f/\1<=least/\∃ (lv:LI) (g:Nat),eb N (aW (N.arcs.zip f)) least lv/\v=.tuple #[.slice (some ⟨g,0,none⟩) (n+1) (n+1),.int .i64 0]/\
  H'=[.own (.slice (some ⟨g,0,none⟩) (n+1) (n+1)) 3 1 (n+1) (ay lv)])\/
 (¬ aK N f/\v=.tuple #[.slice none 0 0,.int .i64 (el N f)]/\H'=[])\/(aK N f/\least<1/\v=.tuple #[.slice none 0 0,.int .i64 3]/\H'=[])
structure LS where
 k:Nat
 fr:LN
 Ax:OA
 cx:Nat
 nw:LI
 An:OA
 cn:Nat
 lv:LI
set_option maxHeartbeats 1000000 in
theorem rQ(N:aO)(hN:N.Fits)(hR:N.Right)(A:OA)(c b o:Nat)(hA:N.arcs≠[]->A=some ⟨b,o,none⟩)(f:LI)(F:OA)(cf bf of:Nat)(hF:f≠[]->F=some ⟨bf,of,none⟩)(hf:∀ x∈f,bU x)(hfl:f.length*8<=140737488351232)(least:Int)
 (n:Nat) (hn:N.nodes=n):Fn 109 [bx N A c,.slice F f.length cf,.int .i64 least] [] [.seg b o (arcs N.arcs),.seg bf of (ay f)] (Gf N f least n):=by
 have hnn:=hR.nodes;have hl2:=hR.len;refine aH Tryz.func109 rfl rfl λ w0=>?_;refine ad (aa ?_);refine bz (cs:=bJ N A c) rfl rfl rfl (λ _=>rfl) λ p=>?_;refine ae [] rfl ?_;refine ad (aa ?_);refine ab [] (v:=bx N A c) (af 0 rfl) rfl ?_;refine ah [] rfl ?_;refine ao [] (nk N hN hR A c b o hA f F cf bf of hF hf hfl) rfl (by kernel_rfl) ⟨⟨1,_,by simp,rfl,ak _ _ _,au⟩,⟨2,_,by simp,rfl,ak _ _ _,au⟩,an⟩ (λ _=>rfl) ?_;rintro v H' (⟨hW,A1,c1,rfl,rfl⟩|⟨hW,rfl,rfl⟩)
 case inr=>
  refine⟨rfl,?_⟩;refine ae [] rfl ?_;refine ad (av (ad (aa (ae [] rfl ?_))));refine aC rfl (λ h=>?_) (λ h=>absurd (cX.1 (GQ.1 h)) hW);refine ad (aa (ae [] rfl ?_));refine aA [] (by decide) rfl (ax ⟨_,rfl,.inr (.inl ⟨hW,rfl,rfl⟩)⟩)
 refine⟨rfl,?_⟩;refine ae [] rfl ?_;refine ad (av (ad (aa (ae [] rfl ?_))));refine aC rfl (λ h=>absurd rfl h) (λ _=>?_);refine ad (aa (ae [] rfl ?_));refine aC rfl (λ h=>?_) (λ hle=>aq ?_)
 ·refine ad (aa (ae [] rfl ?_));refine aA [] (by decide) rfl (ax ⟨_,rfl,.inr (.inr ⟨hW,h,rfl,rfl⟩)⟩)
 obtain⟨rm,hrm⟩:∃ rm,rm=aW (N.arcs.zip f):=⟨_,rfl⟩;have hrl:rm.length=2*N.arcs.length:=by rw[hrm,de,Ih,hW.len,IF]
 rw[<- hrm];refine ad (aa (ah [] rfl ?_));refine ab [] (af 1 rfl) rfl ?_;refine ah [] rfl ?_;refine aI 41 (v':=.int .i64 ((n+1:Nat):Int)) rfl (Gz (Value.int .i64) ((b5 (n:=N.nodes+1) (by omega)).trans (by omega))) ?_;refine di (n:=n+1) (c:=n+1) rfl rfl rfl rfl rfl rfl (by omega) (by omega) (by omega) (λ _=>rfl) λ g=>?_;refine ae [] rfl ?_;refine ad (aa (ah [] rfl ?_));refine ab [] (af 2 rfl) rfl ?_;refine ah [] rfl ?_;refine aI 45 (v':=.int .i64 ((n+1:Nat):Int)) rfl (Gz (Value.int .i64) ((b5 (n:=N.nodes+1) (by omega)).trans (by omega))) ?_;refine di (n:=n+1) (c:=n+1) rfl rfl rfl rfl rfl rfl (by omega) (by omega) (by omega) (λ _=>rfl) λ go=>?_;refine ae [] rfl ?_;rw[show made [Value.slice none 0 0] ((n+1)*1)=(List.replicate (n+1) dx).map cA by rw[dm,Hf,HY];rfl];rw[show made [Value.int .i64 0] ((n+1)*1)=ay (List.replicate (n+1) 0) by rw[dm,Hf];simp[ay]];refine ad (ad (aa (ae [] rfl ?_)));refine av ?_
 refine bP (σ:=Nat) (λ k=>[(49,.int .i64 k),(48,.int .i64 ((n+1:Nat):Int)),(11,.slice (some ⟨go,0,none⟩) (n+1) (n+1)),(10,.slice (some ⟨g,0,none⟩) (n+1) (n+1)),(8,.slice A1 (2*N.arcs.length) c1),(3,.pointer (some ⟨p,0,none⟩)),(2,.int .i64 least)])
  (λ k=>[.own (.slice (some ⟨go,0,none⟩) (n+1) (n+1)) 3 1 (n+1) (ay (List.replicate k (-1)++List.replicate (n+1-k) 0)),.own (.slice (some ⟨g,0,none⟩) (n+1) (n+1)) 23 1 (n+1) ((List.replicate (n+1) dx).map cA),.own (.slice A1 (2*N.arcs.length) c1) 2 1 (2*N.arcs.length) (ay rm),blk p 33 (bJ N A c),.seg b o (arcs N.arcs),.seg bf of (ay f)])
  (λ k=>k<=n+1) (λ k=>n+1-k) 0 [0,1,2,3,4,5] ⟨rfl,rfl,rfl,rfl,rfl,rfl,rfl,an⟩ (by decide) rfl (GI _) ?_
 ·intro k hk;refine ad (aa (ae [] rfl ?_));refine ad (aC rfl (λ hlt=>aq ?_) (λ hge=>a9 ?_))
  ·have hlt:k<n+1:=by omega
   refine ad (av ?_);refine ad (aa (ae [] rfl ?_));refine aa (ah [] rfl ?_);refine ab [] (aG rfl hlt) rfl ?_;refine aS 0 rfl rfl rfl rfl (eA rfl (by simp;omega)) [] rfl ?_;refine ai ?_;refine aa (ae [] rfl ?_);refine⟨k+1,[0,1,2,3,4,5],⟨?_,rfl,rfl,rfl,rfl,rfl,rfl,an⟩,by decide,?_,by omega,by omega⟩
   ·show some (Value.int .i64 (IntKind.i64.wrap ((k:Int)+1)))=_;rw[b5 (by omega)];rfl
   ·rw[show List.replicate (k+1) (-1:Int)++List.replicate (n+1-(k+1)) 0=(List.replicate k (-1)++List.replicate (n+1-k) 0).set k (-1) by
     rw[HT _ _ (by simp),G3,HR,show n+1-k=(n+1-(k+1))+1 by omega,HE (n:=n+1-(k+1)),Id,List.replicate_succ' (n:=k),Hd];rfl]
    rfl
  ·obtain rfl:k=n+1:=by omega
   rw[HR,I5,Hc];refine ad (ad (aa (ae [] rfl ?_)));refine av ?_;refine bH (aF.nils 3 (n+1)) ?_
   refine b8 (σ:=Nat×List ec) (λ s=>[(58,.int .i64 s.1),(57,.int .i64 ((2*N.arcs.length:Nat):Int)),(56,.slice A1 (2*N.arcs.length) c1),(11,.slice (some ⟨go,0,none⟩) (n+1) (n+1)),(10,.slice (some ⟨g,0,none⟩) (n+1) (n+1)),(8,.slice A1 (2*N.arcs.length) c1),(3,.pointer (some ⟨p,0,none⟩)),(2,.int .i64 least)])
    (λ s=>[.own (.slice (some ⟨go,0,none⟩) (n+1) (n+1)) 3 1 (n+1) (ay (List.replicate (n+1) (-1))),.own (.slice (some ⟨g,0,none⟩) (n+1) (n+1)) 23 1 (n+1) (s.2.map cA),.own (.slice A1 (2*N.arcs.length) c1) 2 1 (2*N.arcs.length) (ay rm),blk p 33 (bJ N A c),.seg b o (arcs N.arcs),.seg bf of (ay f)]++s.2.map (aV 3))
    (λ s=>s.1<=2*N.arcs.length/\s.2.length=n+1/\∀ (v:Nat) (r:ec),s.2[v]?=some r->r.l=tr N s.1 v) (λ s=>2*N.arcs.length-s.1)
    (0,List.replicate (n+1) dx) ⟨rfl,rfl,rfl,rfl,rfl,rfl,rfl,rfl,an⟩ aF.refl ⟨GI _,by simp,λ v r h=>?_⟩ ?_
   ·rw[GU] at h;split at h
    ·simp only[GA] at h;subst h;rfl
    ·cases h
   rintro⟨k,rows⟩ ⟨hk,hrows,htr⟩;simp only at hk hrows htr ⊢;refine ad (aa (ae [] rfl ?_));refine ad (aC rfl (λ hlt=>aq ?_) (λ hge=>a9 ?_))
   ·have hlt:k<2*N.arcs.length:=by omega
    have he:=gN hR hlt;obtain⟨v,hv⟩:∃ v:Nat,(cE N k).1=v:=⟨(cE N k).1.toNat,by omega⟩;have hvn:v<rows.length:=by omega
    obtain⟨row,hrow⟩:∃ r,rows[v]?=some r:=⟨rows[v],Gy hvn⟩;have hrl':=htr v row hrow;have hlen:=ly N k v;rw[<- hrl'] at hlen;refine ad (av ?_);refine ad (aa (ae [] rfl ?_));refine ad (aa ?_);refine ab [] (v:=bx N A c) (af 3 rfl) rfl ?_;refine ah [] rfl ?_;refine ao [] (gz N A c b o hA hl2 k hlt) rfl (by kernel_rfl) ⟨⟨4,_,by simp,rfl,ak _ _ _,au⟩,an⟩ (λ _=>rfl) ?_;rintro v' H' ⟨rfl,rfl⟩;refine⟨rfl,?_⟩;refine ae [] rfl ?_;refine aX 14 (v':=.int .i64 (v:Int)) rfl (Gz (Value.int .i64) hv) ?_;refine aa (ah [] rfl ?_);refine ab [] (aG rfl (by omega)) rfl ?_;refine ab [] (aE (v:=cA row) 1 rfl rfl rfl (show (rows.map cA)[v]?=some (cA row) by rw[GJ,hrow];rfl)) rfl ?_;refine ah [] rfl ?_;refine bC rfl rfl rfl rfl rfl rfl rfl (λ _=>rfl) λ g2=>?_;show JL _ _ _ _ _ ([_,_,_,_,_,_,_]++rows.map (aV 3));refine bX (aF.front (i:=v) (c:=aV 3 row) (by rw[GJ,hrow];rfl)) ?_;refine bn (n:=row.l.length) (m:=1) (off:=0) (news:=ay [(k:Int)]) 0 1 rfl rfl rfl rfl rfl rfl (by decide) rfl rfl (aD g2 _ _ (0,0)) (λ _=>rfl) rfl rfl (by omega) (by omega) (λ _ _=>rfl) λ A2 c2=>?_;rw[show row.l.length+1=(row.l++[(k:Int)]).length by simp,show ay row.l++ay [(k:Int)]=ay (row.l++[(k:Int)]) by simp[ay]];refine ab [] (aG rfl (by omega)) rfl ?_;refine aS 3 rfl rfl rfl rfl (dC rfl rfl rfl (by rw[GH];omega)) [] rfl ?_;refine ai ?_;refine aa (ae [] rfl ?_);refine⟨(k+1,rows.set v ⟨A2,c2,row.l++[(k:Int)]⟩),⟨?_,rfl,rfl,rfl,rfl,rfl,rfl,rfl,an⟩,?_,⟨by simp only;omega,by simp only[Hp];omega,λ u r hu=>?_⟩,by simp only;omega⟩
    ·show some (Value.int .i64 (IntKind.i64.wrap ((k:Int)+1)))=_;rw[b5 (by omega)];rfl
    ·simp only[Iv];refine aF.trans (aF.sub (List.Sublist.cons_cons _ (Hg _ _))) (aF.back (A:=[_,_,_,_,_,_]) (by rw[GH];exact hvn))
    ·rw[xJ];by_cases huv:v=u
     ·subst huv;rw[GO hvn] at hu;simp only[GA] at hu;rw[<- hu,if_pos hv,hrl']
     ·rw[GR huv] at hu;rw[if_neg (by omega),Hc];exact htr u r hu
   ·have hk':k=2*N.arcs.length:=by omega
    subst hk'
    have hrowA0:∀ w,cS w0 [] w ([.own (.slice (some ⟨go,0,none⟩) (n+1) (n+1)) 3 1 (n+1) (ay (List.replicate (n+1) (-1))),.own (.slice (some ⟨g,0,none⟩) (n+1) (n+1)) 23 1 (n+1) (rows.map cA),.own (.slice A1 (2*N.arcs.length) c1) 2 1 (2*N.arcs.length) (ay rm),blk p 33 (bJ N A c),.seg b o (arcs N.arcs),.seg bf of (ay f)]++rows.map (aV 3))->
     ∀ v:Nat,∃ gv:Nat,∀ row,rows[v]?=some row->row.l.length<=row.c/\(ay row.l≠[]->row.A=some ⟨gv,0,none⟩):=by
     intro w hw v
     cases hv:rows[v]? with
     |none=>exact⟨0,λ row h=>by cases h⟩
     |some row=>
      obtain⟨_,h2,h3,h4⟩:=a8 (X:=⟨w0,[],⟨0,[]⟩⟩) (v+6) (show _=some (aV 3 row) by show (rows.map (aV 3))[v]?=_;rw[GJ,hv];rfl) w hw;obtain⟨gv,hgv⟩:=bQ h3 h4;exact⟨gv,λ row' h=>by simp only[GA] at h;subst h;exact⟨h2,hgv⟩⟩
    refine bv hrowA0 λ hrowA=>?_;obtain⟨gv,hgv⟩:∃ gv:Nat->Nat,∀ (v:Nat) (row:ec),rows[v]?=some row->row.l.length<=row.c/\(ay row.l≠[]->row.A=some ⟨gv v,0,none⟩):=⟨λ v=>Classical.choose (hrowA v),λ v=>IA (hrowA v)⟩;refine bv (a8 2 rfl) λ ⟨_,_,hA1,_⟩=>?_
    clear hrowA hrowA0
    have hsrc:=hR.src;obtain⟨s0,hs0⟩:∃ s:Nat,N.src=s:=⟨N.src.toNat,by omega⟩;refine ad (aa ?_);refine bu rfl rfl rfl (λ _=>rfl) λ pw=>?_;refine bu rfl rfl rfl (λ _=>rfl) λ px=>?_;refine ae [] rfl ?_;refine ad (aa (ah [] rfl ?_))
    (first|refine ab [] (af 0 rfl) rfl ?_|refine ab [] (af 1 rfl) rfl ?_|refine ab [] (af 2 rfl) rfl ?_|refine ab [] (af 3 rfl) rfl ?_|refine ab [] (af 4 rfl) rfl ?_|refine ab [] (af 5 rfl) rfl ?_|refine ab [] (af 6 rfl) rfl ?_|refine ab [] (af 7 rfl) rfl ?_)
    refine aI 80 (v':=.int .i64 (s0:Int)) rfl (Gz (Value.int .i64) hs0) ?_;refine ab [] (aG rfl (by omega)) rfl ?_;refine aS 2 rfl rfl rfl rfl (eA rfl (by simp;omega)) [] rfl ?_;refine ai ?_;refine cd 3 1 ?_;refine ad (aa (ah [] rfl ?_));refine ab [] (v:=.slice none 0 0) (af 1 rfl) rfl ?_;refine ah [] rfl ?_
    (first|refine ab [] (af 0 rfl) rfl ?_|refine ab [] (af 1 rfl) rfl ?_|refine ab [] (af 2 rfl) rfl ?_|refine ab [] (af 3 rfl) rfl ?_|refine ab [] (af 4 rfl) rfl ?_|refine ab [] (af 5 rfl) rfl ?_|refine ab [] (af 6 rfl) rfl ?_|refine ab [] (af 7 rfl) rfl ?_)
    refine aI 84 (v':=.int .i64 (s0:Int)) rfl (Gz (Value.int .i64) hs0) ?_;refine bC rfl rfl rfl rfl rfl rfl rfl (λ _=>rfl) λ g3=>?_;refine bn (n:=0) (m:=1) (off:=0) (news:=ay [(s0:Int)]) 1 0 rfl rfl rfl rfl rfl rfl (by decide) rfl rfl (aD g3 _ _ (0,0)) (λ _=>rfl) rfl rfl (by omega) (by omega) (λ _ _=>rfl) λ A3 c3=>?_;refine aB 2 rfl [] rfl ?_;refine ai ?_;refine ad (aa (ae [] rfl ?_));refine ad (ad (aa (ae [] rfl ?_)));refine cd 3 1 ?_;refine av ?_;have hgl:∀ (v:Nat) (row:ec),rows[v]?=some row->row.l=tr N (2*N.arcs.length) v:=λ v row h=>htr v row h;show J _ _ _ _ ([_,_,_,_,_,_,_,_,_,_,_]++rows.map (aV 3))
    refine b8 (σ:=LS) (λ s=>[(19,.int .i64 s.k),(18,.func (.func 132) #[] #[.pointer (some ⟨px,0,none⟩),.pointer (some ⟨pw,0,none⟩)]),(17,.pointer (some ⟨px,0,none⟩)),(16,.pointer (some ⟨pw,0,none⟩)),(11,.slice (some ⟨go,0,none⟩) (n+1) (n+1)),(10,.slice (some ⟨g,0,none⟩) (n+1) (n+1)),(8,.slice A1 (2*N.arcs.length) c1),(3,.pointer (some ⟨p,0,none⟩)),(2,.int .i64 least)])
     (λ s=>[blk px 23 [.slice s.Ax s.fr.length s.cx],blk pw 23 [.slice s.An s.nw.length s.cn],.own (.slice s.Ax s.fr.length s.cx) 3 1 s.fr.length (ay (s.fr.map λ (i:Nat)=>(i:Int))),.own (.slice s.An s.nw.length s.cn) 3 1 s.nw.length (ay s.nw),
      .own (.slice (some ⟨go,0,none⟩) (n+1) (n+1)) 3 1 (n+1) (ay s.lv),.own (.slice (some ⟨g,0,none⟩) (n+1) (n+1)) 23 1 (n+1) (rows.map cA),.own (.slice A1 (2*N.arcs.length) c1) 2 1 (2*N.arcs.length) (ay rm),blk p 33 (bJ N A c),.seg b o (arcs N.arcs),.seg bf of (ay f)]++rows.map (aV 3))
     (λ s=>LH N rm least s.k s.fr s.lv) (λ s=>2*s.lv.count (-1)+s.fr.length)
     ⟨1,[s0],A3,c3,[],none,0,(List.replicate (n+1) (-1)).set s0 0⟩ ⟨rfl,rfl,rfl,rfl,rfl,rfl,rfl,rfl,rfl,an⟩ (aF.re [3,4,2,0,5,6,7,8,9,10] rfl (by decide)) ?_ ?_
    ·have:=LH.init (rm:=rm) (least:=least) hR;rw[hs0,hn,G1,G1] at this;exact this
    rintro⟨k,fr,Ax,cx,nw,An,cn,lv⟩ hI;simp only at hI ⊢;have hcnt:=hI.cnt;have hk1:=hI.k1;rw[hn,G1] at hcnt;refine ad (ad (aa (ah [] rfl ?_)));show JL _ _ _ _ _ ([_,_]++([_,_,_,_,_,_,_,_]++rows.map (aV 3)));refine aw (fst:=[]) (vs:=[]) (cap:=[.pointer (some ⟨px,0,none⟩),.pointer (some ⟨pw,0,none⟩)]) [] (Dp px pw Ax An fr.length cx nw.length cn) rfl rfl rfl rfl (by kernel_rfl) aF.refl an (λ _=>rfl) ?_;rintro v H' ⟨rfl,rfl⟩;refine⟨rfl,?_⟩;refine ai ?_;refine aC rfl (λ hne=>aq ?_) (λ hne=>a9 ?_)
    ·have hfne:fr≠[]:=by rintro rfl;simp at hne
     refine bH (aF.shrink (m:=0) 3 rfl (GI _)) ?_;show J _ _ _ _ ([_,_,_,_,_,_,_,_,_,_]++rows.map (aV 3));refine bv (a8 2 rfl) λ ⟨_,_,hAx,_⟩=>?_;obtain⟨gx,rfl⟩:=hAx (Hj.2 hfne);refine ad (av ?_);refine ad (aa (ah [] rfl ?_))
     (first|refine ab [] (af 0 rfl) rfl ?_|refine ab [] (af 1 rfl) rfl ?_|refine ab [] (af 2 rfl) rfl ?_|refine ab [] (af 3 rfl) rfl ?_|refine ab [] (af 4 rfl) rfl ?_|refine ab [] (af 5 rfl) rfl ?_|refine ab [] (af 6 rfl) rfl ?_|refine ab [] (af 7 rfl) rfl ?_)
     refine ae [] rfl ?_;refine av ?_
     refine b8 (σ:=Nat×LN×OA×Nat×LI) (λ s=>[(94,.int .i64 s.1),(93,.int .i64 fr.length),(92,.slice (some ⟨gx,0,none⟩) fr.length cx),(19,.int .i64 k),(18,.func (.func 132) #[] #[.pointer (some ⟨px,0,none⟩),.pointer (some ⟨pw,0,none⟩)]),(17,.pointer (some ⟨px,0,none⟩)),(16,.pointer (some ⟨pw,0,none⟩)),(11,.slice (some ⟨go,0,none⟩) (n+1) (n+1)),(10,.slice (some ⟨g,0,none⟩) (n+1) (n+1)),(8,.slice A1 (2*N.arcs.length) c1),(3,.pointer (some ⟨p,0,none⟩)),(2,.int .i64 least)])
      (λ s=>[blk px 23 [.slice s.2.2.1 s.2.1.length s.2.2.2.1],blk pw 23 [.slice (some ⟨gx,0,none⟩) fr.length cx],.own (.slice (some ⟨gx,0,none⟩) fr.length cx) 3 1 fr.length (ay (fr.map λ (i:Nat)=>(i:Int))),.own (.slice s.2.2.1 s.2.1.length s.2.2.2.1) 3 1 s.2.1.length (ay (s.2.1.map λ (i:Nat)=>(i:Int))),
       .own (.slice (some ⟨go,0,none⟩) (n+1) (n+1)) 3 1 (n+1) (ay s.2.2.2.2),.own (.slice (some ⟨g,0,none⟩) (n+1) (n+1)) 23 1 (n+1) (rows.map cA),.own (.slice A1 (2*N.arcs.length) c1) 2 1 (2*N.arcs.length) (ay rm),blk p 33 (bJ N A c),.seg b o (arcs N.arcs),.seg bf of (ay f)]++rows.map (aV 3))
      (λ s=>s.1<=fr.length/\LV N rm least k fr s.1 0 s.2.1 s.2.2.2.2/\2*s.2.2.2.2.count (-1)+2*s.2.1.length=2*lv.count (-1)) (λ s=>fr.length-s.1)
      (0,[],An,cn,lv) ⟨rfl,rfl,rfl,rfl,rfl,rfl,rfl,rfl,rfl,rfl,rfl,rfl,an⟩ (aF.re [0,1,2,3,4,5,6,7,8,9] rfl (by decide)) ⟨GI _,hI.turn hfne,rfl⟩ ?_
     rintro⟨i,nxt,Ay,cy,lw⟩ ⟨hil,hV,hct⟩;simp only at hil hV hct ⊢;have hvc:=hV.cnt;rw[hn,G1] at hvc;have hwl:=hV.len;rw[hn,G1] at hwl;refine ad (aa (ae [] rfl ?_));refine ad (aC rfl (λ hlt=>aq ?_) (λ hge=>a9 ?_))
     ·have hlt:i<fr.length:=by omega
      obtain⟨v,hv⟩:∃ v,fr[i]?=some v:=⟨fr[i],Gy hlt⟩;have hvm:(fr.map λ (i:Nat)=>(i:Int))[i]?=some (v:Int):=by rw[GJ,hv];rfl
      have hvl:=(hV.old v).2 (GB hv)
      have hvn:v<rows.length:=by
       refine Nat.lt_of_not_le λ h=>?_;rw[xe (by omega)] at hvl;omega
      obtain⟨row,hrow⟩:∃ row,rows[v]?=some row:=⟨rows[v],Gy hvn⟩;have hrowl:=hgl v row hrow;have hrowlen:=ly N (2*N.arcs.length) v;rw[<- hrowl] at hrowlen;refine ad (av ?_);refine ad (aa (ah [] rfl ?_));refine ab [] (aG rfl hlt) rfl ?_;refine ab [] (aE (v:=.int .i64 (v:Int)) 2 rfl rfl rfl (dw hvm)) rfl ?_;refine ae [] rfl ?_;refine ad (aa (ah [] rfl ?_));refine ab [] (aG rfl (by omega)) rfl ?_;refine ab [] (aE (v:=.slice row.A row.l.length row.c) 5 rfl rfl rfl (show (rows.map cA)[v]?=some (cA row) by rw[GJ,hrow];rfl)) rfl ?_;refine ae [] rfl ?_;refine av ?_
      refine b8 (σ:=Nat×LN×OA×Nat×LI) (λ s=>[(103,.int .i64 s.1),(102,.int .i64 row.l.length),(101,.slice row.A row.l.length row.c),(94,.int .i64 i),(93,.int .i64 fr.length),(92,.slice (some ⟨gx,0,none⟩) fr.length cx),(19,.int .i64 k),(18,.func (.func 132) #[] #[.pointer (some ⟨px,0,none⟩),.pointer (some ⟨pw,0,none⟩)]),(17,.pointer (some ⟨px,0,none⟩)),(16,.pointer (some ⟨pw,0,none⟩)),(11,.slice (some ⟨go,0,none⟩) (n+1) (n+1)),(10,.slice (some ⟨g,0,none⟩) (n+1) (n+1)),(8,.slice A1 (2*N.arcs.length) c1),(3,.pointer (some ⟨p,0,none⟩)),(2,.int .i64 least)])
       (λ s=>[blk px 23 [.slice s.2.2.1 s.2.1.length s.2.2.2.1],blk pw 23 [.slice (some ⟨gx,0,none⟩) fr.length cx],.own (.slice (some ⟨gx,0,none⟩) fr.length cx) 3 1 fr.length (ay (fr.map λ (i:Nat)=>(i:Int))),.own (.slice s.2.2.1 s.2.1.length s.2.2.2.1) 3 1 s.2.1.length (ay (s.2.1.map λ (i:Nat)=>(i:Int))),
        .own (.slice (some ⟨go,0,none⟩) (n+1) (n+1)) 3 1 (n+1) (ay s.2.2.2.2),.own (.slice (some ⟨g,0,none⟩) (n+1) (n+1)) 23 1 (n+1) (rows.map cA),.own (.slice A1 (2*N.arcs.length) c1) 2 1 (2*N.arcs.length) (ay rm),blk p 33 (bJ N A c),.seg b o (arcs N.arcs),.seg bf of (ay f)]++rows.map (aV 3))
       (λ s=>s.1<=row.l.length/\LV N rm least k fr i s.1 s.2.1 s.2.2.2.2/\2*s.2.2.2.2.count (-1)+2*s.2.1.length=2*lv.count (-1)) (λ s=>row.l.length-s.1)
       (0,nxt,Ay,cy,lw) ⟨rfl,rfl,rfl,rfl,rfl,rfl,rfl,rfl,rfl,rfl,rfl,rfl,rfl,rfl,rfl,an⟩ aF.refl ⟨GI _,hV,hct⟩ ?_
      clear hvc hwl hV hct
      rintro⟨j,nxt,Ay,cy,lw⟩ ⟨hjl,hV,hct⟩;simp only at hjl hV hct ⊢;have hvc:=hV.cnt;rw[hn,G1] at hvc;have hwl:=hV.len;rw[hn,G1] at hwl;refine ad (aa (ae [] rfl ?_));refine ad (aC rfl (λ hlt2=>aq ?_) (λ hge=>a9 ?_))
      ·have hlt2:j<row.l.length:=by omega
       obtain⟨y,hy⟩:∃ y,row.l[j]?=some y:=⟨row.l[j],Gy hlt2⟩;have hymem:=GB hy;rw[hrowl] at hymem;obtain⟨r,hr,hru,rfl⟩:=sb.1 hymem;have hin:=gN hR hr;obtain⟨te,htn1,htn2⟩:=gV hR hr;obtain⟨t,ht⟩:∃ t,eX N r=t:=⟨_,rfl⟩;rw[ht] at te htn1 htn2;have hfr:dG N r=v:=by unfold dG;omega
       obtain⟨x,hxr⟩:∃ x,rm[r]?=some x:=⟨rm[r]'(by omega),Gy (by omega)⟩;have hxd:rm.getD r 0=x:=by rw[GD,hxr];rfl
       have hlt3:t<lw.length:=by omega
       obtain⟨gr,rfl⟩:=hA1 (by omega)
       have hrowne:ay row.l≠[]:=by
        intro h0;have:row.l.length=0:=by rw[<- bI,h0];rfl
        omega
       have hrA:=(hgv v row hrow).2 hrowne;have hjr:∃ u,fr[i]?=some u/\(tr N (2*N.arcs.length) u)[j]?=some (r:Int):=⟨v,hv,hrowl▸hy⟩;have hnext:IntKind.i64.wrap ((j:Int)+1)=((j+1:Nat):Int):=b5 (by omega);refine ad (av ?_);refine ad (aa (ah [] rfl ?_));refine ab [] (FK (b:=gv v) (off:=0) rfl (by rw[hrA];rfl) rfl rfl rfl hlt2) rfl ?_
       refine ab [] (dz (b:=gv v) (off:=0) (i:=j) (cs:=ay row.l) (v:=.int .i64 (r:Int)) (c:=aV 3 row) (v+10) rfl rfl (show (rows.map (aV 3))[v]?=_ by rw[List.getElem?_map,hrow];rfl)
        (aL (e:=3) (sz:=1) (n:=row.l.length) (cap:=row.c) (λ _=>hrA)) (dw hy)) rfl ?_
       refine ae [] rfl ?_;refine ad (aa ?_);refine ab [] (v:=bx N A c) (af 7 rfl) rfl ?_;refine ah [] rfl ?_;refine ao [] (gz N A c b o hA hl2 r hr) rfl (by kernel_rfl) ⟨⟨8,_,by simp,rfl,ak _ _ _,au⟩,an⟩ (λ _=>rfl) ?_;rintro v' H' ⟨rfl,rfl⟩;refine⟨rfl,?_⟩;refine ae [] rfl ?_;refine aX 25 (v':=.int .i64 (t:Int)) rfl (Gz (Value.int .i64) te) ?_;refine ad (aa (ah [] rfl ?_));refine ab [] (aG rfl (by omega)) rfl ?_;refine ab [] (aE 6 rfl rfl rfl (bR hxr)) rfl ?_;refine ah [] rfl ?_;have hyes:∀ E2:Env,True:=λ _=>trivial;have hskip:rm.getD r 0<least\/cQ lw (eX N r)≠-1->LV N rm least k fr i (j+1) nxt lw:=λ h=>hV.pass hjr h;by_cases hge:least<=x
       ·refine bj 119 rfl hge ?_;refine ah [6] rfl ?_;refine ab [6] (aG rfl (by omega)) rfl ?_;refine ab [6] (aE 4 rfl rfl rfl (bi (kJ hlt3))) rfl ?_;refine ae [6] rfl ?_;refine aC rfl (fun hnone=>?_) (fun hsome=>aq ?_)
        ·have hput:=hV.put (r:=r) ⟨v,hv,hfr,hrowl▸hy⟩ hr ⟨by omega,by omega⟩ (by omega) (by rw[ht];exact hnone);have hcs:=gy lw t (k:Int) (by rw[kJ hlt3,hnone]) (by omega);rw[ht] at hput;refine ad (aa (ah [] rfl ?_));refine ab [] (aG rfl (by omega)) rfl ?_;refine aS 4 rfl rfl rfl rfl (eA rfl hlt3) [] rfl ?_;refine ai ?_;refine aa (ah [] rfl ?_);refine ab [] (v:=.slice Ay nxt.length cy) (af 0 rfl) rfl ?_;refine ah [] rfl ?_;refine bC rfl rfl rfl rfl rfl rfl rfl (λ _=>rfl) λ g4=>?_;refine bn (n:=nxt.length) (m:=1) (off:=0) (news:=ay [(t:Int)]) 4 0 rfl rfl rfl rfl rfl rfl (by decide) rfl rfl (aD g4 _ _ (0,0)) (λ _=>rfl) rfl rfl (by omega) (by omega) (λ _ _=>rfl) λ A4 c4=>?_;rw[show nxt.length+1=(nxt++[t]).length by simp,show ay (nxt.map λ (i:Nat)=>(i:Int))++ay [(t:Int)]=ay ((nxt++[t]).map λ (i:Nat)=>(i:Int)) by simp[ay]];refine aB 1 rfl [] rfl ?_;refine ai ?_;refine aa (ae [] rfl ?_);show ∃ s',_/\aF _ ([_,_,_,_,_,_,_,_,_,_,_]++rows.map (aV 3)) _/\_;exact⟨(j+1,nxt++[t],A4,c4,lw.set t (k:Int)),⟨Gz some (Gz (Value.int .i64) hnext),rfl,rfl,rfl,rfl,rfl,rfl,rfl,rfl,rfl,rfl,rfl,rfl,rfl,rfl,an⟩,aF.re [1,2,3,4,5,6,7,8,9,10] rfl (by decide),⟨by simp only;omega,hput,by simp only[GE,G7];omega⟩,by simp only;omega⟩
        ·skip
         refine aa (ae [] rfl ?_);exact⟨(j+1,nxt,Ay,cy,lw),⟨Gz some (Gz (Value.int .i64) hnext),rfl,rfl,rfl,rfl,rfl,rfl,rfl,rfl,rfl,rfl,rfl,rfl,rfl,rfl,an⟩,aF.refl,⟨by simp only;omega,hskip (.inr (by rw[ht];exact hsome)),hct⟩,by simp only;omega⟩
       ·refine bd 119 rfl hge ?_;refine ae [6] rfl ?_;refine bG rfl (aq ?_);refine aa (ae [] rfl ?_);exact⟨(j+1,nxt,Ay,cy,lw),⟨Gz some (Gz (Value.int .i64) hnext),rfl,rfl,rfl,rfl,rfl,rfl,rfl,rfl,rfl,rfl,rfl,rfl,rfl,rfl,an⟩,aF.refl,⟨by simp only;omega,hskip (.inl (by omega)),hct⟩,by simp only;omega⟩
      ·have hV':=hV.row (λ u hu=>by
        rw[hv] at hu;simp only[GA] at hu;rw[<- hu,<- hrowl];omega)
       refine aa (ae [] rfl ?_);exact⟨(i+1,nxt,Ay,cy,lw),⟨Gz some (Gz (Value.int .i64) (b5 (by omega))),rfl,rfl,rfl,rfl,rfl,rfl,rfl,rfl,rfl,rfl,rfl,an⟩,aF.refl,⟨by simp only;omega,hV',hct⟩,by simp only;omega⟩
     ·have hH:=hV.final (by omega);refine aa (ae [] rfl ?_)
      exact⟨⟨k+1,nxt,Ay,cy,fr.map λ (i:Nat)=>(i:Int),some ⟨gx,0,none⟩,cx,lw⟩,⟨Gz some (Gz (Value.int .i64) (b5 (by omega))),rfl,rfl,rfl,rfl,rfl,rfl,rfl,rfl,an⟩,by
       simp only[GH];exact aF.re [0,1,3,2,4,5,6,7,8,9] rfl (by decide),hH,by simp only;have:=Hj.2 hfne;omega⟩
    ·have hf0:fr=[]:=GT.1 (by omega);subst hf0;refine ad (aa (ae [] rfl ?_));refine aA [4] (by decide) rfl (ax ⟨_,rfl,.inl ⟨hW,by omega,lv,go,?_,rfl,rfl⟩⟩);rw[<- hrm];exact hI.lev hR
end Go.Proofs.YtmcnpaelaieniaaGreatDoor
