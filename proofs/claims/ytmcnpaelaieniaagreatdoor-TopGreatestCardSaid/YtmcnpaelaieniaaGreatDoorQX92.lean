import Derived.Test.YtmcnpaelaieniaaGreatDoorQX66
import Derived.Test.YtmcnpaelaieniaaGreatDoorQD
import Derived.Test.YtmcnpaelaieniaaGreatDoorQB
import Derived.Test.YtmcnpaelaieniaaGreatDoorQF
/- A part of the proof; see NOTES.md. -/
set_option linter.unusedVariables false
set_option linter.unusedSimpArgs false
namespace Go.Proofs.YtmcnpaelaieniaaGreatDoor
open Go.RowKit
theorem lB(l:LI)(k:Nat):ax (l.drop k)=(ax l).drop k:=by unfold ax;rw[List.map_drop]
theorem uG{l:LI}{k:Nat}(hk:k<=l.length)(h:∀ j x,j<k->l[j]?=some x->fL x=false):bH l=k+(l.drop k).findIdx fL:=by
 have e:l=l.take k++l.drop k:=(Hs k l).symm;unfold bH
 conv=>lhs;rw[e,List.findIdx_append]
 have h1:(l.take k).findIdx fL=(l.take k).length:=IJ.2 λ x hx=>by
  obtain⟨j,hj⟩:=HA.1 hx;have hjk:j<k:=by have:=(Gv.1 hj).1;rw[GV] at this;omega
  rw[List.getElem?_take,if_pos hjk] at hj;exact h j x hjk hj
 rw[h1,if_neg (by omega),GV];omega
set_option maxHeartbeats 1000000 in
theorem tA(N:aU)(A:OA)(c:Nat)(left:LI)(hll:left.length<=2000)(Al:OA)(cl bl:Nat)(hcl:left.length<=cl)(hAl:left≠[]->Al=some ⟨bl,0,none⟩)(val:Int)(Ao:OA)(no co:Nat)(k:Nat)(hk:k<=left.length)(hbef:∀ j x,j<k->left[j]?=some x->fL x=false)(pw:Nat):
 Fn 178 [.pointer (some ⟨pw,0,none⟩)] (aL [blk pw 256 (lU N A c Al left.length cl val Ao no co (k:Int))]) ([.seg bl 0 (ax left)]++[blk pw 256 (lU N A c Al left.length cl val Ao no co (k:Int))]) λ v H'=>v=.bool (di (bH left<left.length))/\H'=[blk pw 256 (lU N A c Al left.length cl val Ao no co (bH left:Nat))]:=by
 generalize hM:aL _=M
 refine aJ Tryz.func178 rfl rfl λ w0=>?_;have hfd:=uG hk hbef;have hfl:bH left<=left.length:=by unfold bH;exact List.findIdx_le_length
 refine ad (aa (ae [] rfl ?_));refine ad ?_;refine bu 17 (cZ [0,1,2,3,4,5,6,7,8,9,10,11,12]++[(13,false)]++cZ [14,15,16]) [0,1] (by kernel_rfl) (by decide) rfl ?_;refine aB [] rfl ?_;refine aj [] (v:=.int .i64 (k:Int)) rfl (af 1 rfl) rfl ?_;refine aB [] rfl ?_;refine aj [] (v:=.slice Al left.length cl) rfl (af 1 rfl) rfl ?_;refine aB [] rfl ?_;refine aj [] (v:=.int .i64 (k:Int)) rfl (af 1 rfl) rfl ?_;refine aj [] rfl (dE (i:=k) rfl rfl rfl rfl rfl hk) rfl ?_;refine aB [] rfl ?_;refine bg rfl ?_;have hdl:(left.drop k).length=left.length-k:=Ht
 have TP:=vE (gj Al cl k 1) (cl-k) bl k (left.drop k) (λ hne=>by
  have hlt:k<left.length:=by
   refine Hg λ h=>hne (List.drop_eq_nil_iff.2 (by omega))
  have:=fT (A:=Al) (c:=cl) (l:=k) (n:=left.length) (sz:=1) (b:=bl) (o:=0) (λ _=>hAl (by rintro rfl;simp at hlt)) hcl hlt;rw[this];simp) (by omega)
 rw[hdl,lB] at TP;refine b9 (fst:=[]) (cap:=[]) [] TP rfl rfl rfl rfl (by kernel_rfl) ⟨⟨0,_,by simp,rfl,by have:=ep (ak bl 0 (ax left)) k;rw[GZ] at this;exact this,(show ax left=[]\/(aV.seg bl 0 (ax left)).at_=some bl from av).imp (λ h=>by rw[h,List.drop_nil]) id⟩,an⟩ (λ _=>rfl) ?_;rintro v H' ⟨rfl,rfl⟩;refine⟨rfl,?_⟩;refine ai ⟨⟨[0,1],by decide,rfl⟩,?_⟩;refine dw [] rfl ?_;refine aI 17 (v':=.int .i64 ((bH left:Nat):Int)) rfl (Gt (Value.int .i64) (by rw[cv (by omega)];omega)) ?_;refine aA 1 rfl [] rfl ?_;refine ai ?_;refine ad ?_;refine bu 11 (cZ [0,1,2,3,4,5,6,7,8,9,10]) [0,1] (by kernel_rfl) (by decide) rfl ?_;refine aB [] rfl ?_;refine aj [] (v:=.int .i64 ((bH left:Nat):Int)) rfl (af 1 rfl) rfl ?_;refine aB [] rfl ?_;refine aj [] (v:=.slice Al left.length cl) rfl (af 1 rfl) rfl ?_;refine dw [] rfl ?_;refine ai ?_;refine az [1] (by decide) rfl (ay ⟨_,rfl,Gt Value.bool (ey (by omega)),rfl⟩)
theorem Do(px pn:Nat)(Ax An:OA)(lx cx ln cn:Nat):Fn 132 [.pointer (some ⟨px,0,none⟩),.pointer (some ⟨pn,0,none⟩)] (aL [blk px 23 [.slice Ax lx cx],blk pn 23 [.slice An ln cn]])
 ([]++[blk px 23 [.slice Ax lx cx],blk pn 23 [.slice An ln cn]]) λ v H'=>v=.bool (di (0<lx))/\H'=[blk px 23 [.slice An 0 cn],blk pn 23 [.slice Ax lx cx]]:=by
 refine aJ Tryz.func132 rfl rfl λ w0=>?_;refine ad (aa (ae [] rfl ?_));refine fj [(0,.pointer (some ⟨px,0,none⟩)),(1,.pointer (some ⟨pn,0,none⟩))] [blk px 23 [.slice An 0 cn],blk pn 23 [.slice Ax lx cx]] ?_ ?_
 ·refine FL ?_
  (repeat' (first|exact an|refine CP (by decide+kernel) ⟨[0,1],⟨rfl,rfl,an⟩,by decide,rfl⟩|refine i8 0 [1] (by decide+kernel) ?_|refine i8 0 [2] (by decide+kernel) ?_|refine i8 2 [3] (by decide+kernel) ?_|refine i8 0 [] (by decide+kernel) ?_|refine i8 1 [] (by decide+kernel) ?_|refine i8 2 [] (by decide+kernel) ?_|refine i8 3 [] (by decide+kernel) ?_|refine i8 4 [] (by decide+kernel) ?_|refine⟨⟨_,rfl,?_⟩,?_⟩|refine ab [] (af 0 rfl) rfl ?_|refine ab [] (af 1 rfl) rfl ?_|refine ab [] (gF (i:=0) rfl rfl rfl rfl rfl (GB _)) rfl ?_|refine aA 1 rfl [] rfl ?_|refine aA 0 rfl [] rfl ?_|refine ai ?_))
 refine ad (aa (ah [] rfl ?_));refine ab [] (af 1 rfl) rfl ?_;refine ae [] rfl ?_;refine az [0,1] (by decide) rfl (ay ⟨_,rfl,Gt Value.bool (ey (by omega)),rfl⟩)
def F4(N:aU)(f:LI)(least:Int)(n:Nat)(v:Value)(H':Heap):Prop:=
 (aK N f/\1<=least/\∃ (lv:LI) (g:Nat),ec N (aP (N.arcs.zip f)) least lv/\v=.tuple #[.slice (some ⟨g,0,none⟩) (n+1) (n+1),.int .i64 0]/\
  H'=[.own (.slice (some ⟨g,0,none⟩) (n+1) (n+1)) 3 1 (n+1) (ax lv)])\/
 (¬ aK N f/\v=.tuple #[.slice none 0 0,.int .i64 (en N f)]/\H'=[])\/(aK N f/\least<1/\v=.tuple #[.slice none 0 0,.int .i64 3]/\H'=[])
structure LS where
 k:Nat
 fr:LN
 Ax:OA
 cx:Nat
 nw:LI
 An:OA
 cn:Nat
 lv:LI
set_option maxHeartbeats 1000000 in
theorem qY(N:aU)(hN:N.Fits)(hR:N.Right)(A:OA)(c b o:Nat)(hA:N.arcs≠[]->A=some ⟨b,o,none⟩)(f:LI)(F:OA)(cf bf of:Nat)(hF:f≠[]->F=some ⟨bf,of,none⟩)(hf:∀ x∈f,dn x)(hfl:f.length*8<=140737488351232)(least:Int)
 (n:Nat) (hn:N.nodes=n):Fn 109 [bp N A c,.slice F f.length cf,.int .i64 least] [] [.seg b o (arcs N.arcs),.seg bf of (ax f)] (F4 N f least n):=by
 have hnn:=hR.nodes;have hl2:=hR.len;refine aJ Tryz.func109 rfl rfl λ w0=>?_;refine ad (aa ?_);refine bx (cs:=bI N A c) rfl rfl rfl (λ _=>rfl) λ p=>?_;refine ae [] rfl ?_;refine ad (aa ?_);refine ab [] (v:=bp N A c) (af 0 rfl) rfl ?_;refine ah [] rfl ?_;refine ap [] (mH N hN hR A c b o hA f F cf bf of hF hf hfl) rfl (by kernel_rfl) ⟨⟨1,_,by simp,rfl,ak _ _ _,av⟩,⟨2,_,by simp,rfl,ak _ _ _,av⟩,an⟩ (λ _=>rfl) ?_;rintro v H' (⟨hW,A1,c1,rfl,rfl⟩|⟨hW,rfl,rfl⟩)
 case inr=>
  refine⟨rfl,?_⟩;refine ae [] rfl ?_;refine ad (au (ad (aa (ae [] rfl ?_))));refine aC rfl (λ h=>?_) (λ h=>absurd (cU.1 (GK.1 h)) hW);refine ad (aa (ae [] rfl ?_));refine az [] (by decide) rfl (ay ⟨_,rfl,.inr (.inl ⟨hW,rfl,rfl⟩)⟩)
 refine⟨rfl,?_⟩;refine ae [] rfl ?_;refine ad (au (ad (aa (ae [] rfl ?_))));refine aC rfl (λ h=>absurd rfl h) (λ _=>?_);refine ad (aa (ae [] rfl ?_));refine aC rfl (λ h=>?_) (λ hle=>aq ?_)
 ·refine ad (aa (ae [] rfl ?_));refine az [] (by decide) rfl (ay ⟨_,rfl,.inr (.inr ⟨hW,h,rfl,rfl⟩)⟩)
 obtain⟨rm,hrm⟩:∃ rm,rm=aP (N.arcs.zip f):=⟨_,rfl⟩;have hrl:rm.length=2*N.arcs.length:=by rw[hrm,cL,HS,hW.len,Ib]
 rw[<- hrm];refine ad (aa (ah [] rfl ?_));refine ab [] (af 1 rfl) rfl ?_;refine ah [] rfl ?_;refine aI 41 (v':=.int .i64 ((n+1:Nat):Int)) rfl (Gt (Value.int .i64) ((cv (n:=N.nodes+1) (by omega)).trans (by omega))) ?_;refine cX (n:=n+1) (c:=n+1) rfl rfl rfl rfl rfl rfl (by omega) (by omega) (by omega) (λ _=>rfl) λ g=>?_;refine ae [] rfl ?_;refine ad (aa (ah [] rfl ?_));refine ab [] (af 2 rfl) rfl ?_;refine ah [] rfl ?_;refine aI 45 (v':=.int .i64 ((n+1:Nat):Int)) rfl (Gt (Value.int .i64) ((cv (n:=N.nodes+1) (by omega)).trans (by omega))) ?_;refine cX (n:=n+1) (c:=n+1) rfl rfl rfl rfl rfl rfl (by omega) (by omega) (by omega) (λ _=>rfl) λ go=>?_;refine ae [] rfl ?_;rw[show made [Value.slice none 0 0] ((n+1)*1)=(List.replicate (n+1) dv).map cz by rw[dh,G8,HT];rfl];rw[show made [Value.int .i64 0] ((n+1)*1)=ax (List.replicate (n+1) 0) by rw[dh,G8];simp[ax]];refine ad (ad (aa (ae [] rfl ?_)));refine au ?_
 refine bO (σ:=Nat) (λ k=>[(49,.int .i64 k),(48,.int .i64 ((n+1:Nat):Int)),(11,.slice (some ⟨go,0,none⟩) (n+1) (n+1)),(10,.slice (some ⟨g,0,none⟩) (n+1) (n+1)),(8,.slice A1 (2*N.arcs.length) c1),(3,.pointer (some ⟨p,0,none⟩)),(2,.int .i64 least)])
  (λ k=>[.own (.slice (some ⟨go,0,none⟩) (n+1) (n+1)) 3 1 (n+1) (ax (List.replicate k (-1)++List.replicate (n+1-k) 0)),.own (.slice (some ⟨g,0,none⟩) (n+1) (n+1)) 23 1 (n+1) ((List.replicate (n+1) dv).map cz),.own (.slice A1 (2*N.arcs.length) c1) 2 1 (2*N.arcs.length) (ax rm),blk p 33 (bI N A c),.seg b o (arcs N.arcs),.seg bf of (ax f)])
  (λ k=>k<=n+1) (λ k=>n+1-k) 0 [0,1,2,3,4,5] ⟨rfl,rfl,rfl,rfl,rfl,rfl,rfl,an⟩ (by decide) rfl (GB _) ?_
 ·intro k hk;refine ad (aa (ae [] rfl ?_));refine ad (aC rfl (λ hlt=>aq ?_) (λ hge=>bc ?_))
  ·have hlt:k<n+1:=by omega
   refine ad (au ?_);refine ad (aa (ae [] rfl ?_));refine aa (ah [] rfl ?_);refine ab [] (aG rfl hlt) rfl ?_;refine aO 0 rfl rfl rfl rfl (dU rfl (by simp;omega)) [] rfl ?_;refine ai ?_;refine aa (ae [] rfl ?_);refine⟨k+1,[0,1,2,3,4,5],⟨?_,rfl,rfl,rfl,rfl,rfl,rfl,an⟩,by decide,?_,by omega,by omega⟩
   ·show some (Value.int .i64 (IntKind.i64.wrap ((k:Int)+1)))=_;rw[cv (by omega)];rfl
   ·rw[show List.replicate (k+1) (-1:Int)++List.replicate (n+1-(k+1)) 0=(List.replicate k (-1)++List.replicate (n+1-k) 0).set k (-1) by
     rw[HJ _ _ (by simp),GU,HC,show n+1-k=(n+1-(k+1))+1 by omega,Hw (n:=n+1-(k+1)),HU,List.replicate_succ' (n:=k),G4];rfl]
    rfl
  ·obtain rfl:k=n+1:=by omega
   rw[HC,IX,G5];refine ad (ad (aa (ae [] rfl ?_)));refine au ?_;refine bJ (aH.nils 3 (n+1)) ?_
   refine b6 (σ:=Nat×List d9) (λ s=>[(58,.int .i64 s.1),(57,.int .i64 ((2*N.arcs.length:Nat):Int)),(56,.slice A1 (2*N.arcs.length) c1),(11,.slice (some ⟨go,0,none⟩) (n+1) (n+1)),(10,.slice (some ⟨g,0,none⟩) (n+1) (n+1)),(8,.slice A1 (2*N.arcs.length) c1),(3,.pointer (some ⟨p,0,none⟩)),(2,.int .i64 least)])
    (λ s=>[.own (.slice (some ⟨go,0,none⟩) (n+1) (n+1)) 3 1 (n+1) (ax (List.replicate (n+1) (-1))),.own (.slice (some ⟨g,0,none⟩) (n+1) (n+1)) 23 1 (n+1) (s.2.map cz),.own (.slice A1 (2*N.arcs.length) c1) 2 1 (2*N.arcs.length) (ax rm),blk p 33 (bI N A c),.seg b o (arcs N.arcs),.seg bf of (ax f)]++s.2.map (aZ 3))
    (λ s=>s.1<=2*N.arcs.length/\s.2.length=n+1/\∀ (v:Nat) (r:d9),s.2[v]?=some r->r.l=tr N s.1 v) (λ s=>2*N.arcs.length-s.1)
    (0,List.replicate (n+1) dv) ⟨rfl,rfl,rfl,rfl,rfl,rfl,rfl,rfl,an⟩ aH.refl ⟨GB _,by simp,λ v r h=>?_⟩ ?_
   ·rw[GN] at h;split at h
    ·simp only[Gs] at h;subst h;rfl
    ·cases h
   rintro⟨k,rows⟩ ⟨hk,hrows,htr⟩;simp only at hk hrows htr ⊢;refine ad (aa (ae [] rfl ?_));refine ad (aC rfl (λ hlt=>aq ?_) (λ hge=>bc ?_))
   ·have hlt:k<2*N.arcs.length:=by omega
    have he:=fG hR hlt;obtain⟨v,hv⟩:∃ v:Nat,(b8 N k).1=v:=⟨(b8 N k).1.toNat,by omega⟩;have hvn:v<rows.length:=by omega
    obtain⟨row,hrow⟩:∃ r,rows[v]?=some r:=⟨rows[v],Gq hvn⟩;have hrl':=htr v row hrow;have hlen:=lh N k v;rw[<- hrl'] at hlen;refine ad (au ?_);refine ad (aa (ae [] rfl ?_));refine ad (aa ?_);refine ab [] (v:=bp N A c) (af 3 rfl) rfl ?_;refine ah [] rfl ?_;refine ap [] (gC N A c b o hA hl2 k hlt) rfl (by kernel_rfl) ⟨⟨4,_,by simp,rfl,ak _ _ _,av⟩,an⟩ (λ _=>rfl) ?_;rintro v' H' ⟨rfl,rfl⟩;refine⟨rfl,?_⟩;refine ae [] rfl ?_;refine a7 14 (v':=.int .i64 (v:Int)) rfl (Gt (Value.int .i64) hv) ?_;refine aa (ah [] rfl ?_);refine ab [] (aG rfl (by omega)) rfl ?_;refine ab [] (aD (v:=cz row) 1 rfl rfl rfl (show (rows.map cz)[v]?=some (cz row) by rw[GC,hrow];rfl)) rfl ?_;refine ah [] rfl ?_;refine bF rfl rfl rfl rfl rfl rfl rfl (λ _=>rfl) λ g2=>?_;show JL _ _ _ _ _ ([_,_,_,_,_,_,_]++rows.map (aZ 3));refine bY (aH.front (i:=v) (c:=aZ 3 row) (by rw[GC,hrow];rfl)) ?_;refine bv (n:=row.l.length) (m:=1) (off:=0) (news:=ax [(k:Int)]) 0 1 rfl rfl rfl rfl rfl rfl (by decide) rfl rfl (aF g2 _ _ (0,0)) (λ _=>rfl) rfl rfl (by omega) (by omega) (λ _ _=>rfl) λ A2 c2=>?_;rw[show row.l.length+1=(row.l++[(k:Int)]).length by simp,show ax row.l++ax [(k:Int)]=ax (row.l++[(k:Int)]) by simp[ax]];refine ab [] (aG rfl (by omega)) rfl ?_;refine aO 3 rfl rfl rfl rfl (df rfl rfl rfl (by rw[GA];omega)) [] rfl ?_;refine ai ?_;refine aa (ae [] rfl ?_);refine⟨(k+1,rows.set v ⟨A2,c2,row.l++[(k:Int)]⟩),⟨?_,rfl,rfl,rfl,rfl,rfl,rfl,rfl,an⟩,?_,⟨by simp only;omega,by simp only[Ha];omega,λ u r hu=>?_⟩,by simp only;omega⟩
    ·show some (Value.int .i64 (IntKind.i64.wrap ((k:Int)+1)))=_;rw[cv (by omega)];rfl
    ·simp only[In];refine aH.trans (aH.sub (List.Sublist.cons_cons _ (G9 _ _))) (aH.back (A:=[_,_,_,_,_,_]) (by rw[GA];exact hvn))
    ·rw[xi];by_cases huv:v=u
     ·subst huv;rw[GH hvn] at hu;simp only[Gs] at hu;rw[<- hu,if_pos hv,hrl']
     ·rw[GJ huv] at hu;rw[if_neg (by omega),G5];exact htr u r hu
   ·have hk':k=2*N.arcs.length:=by omega
    subst hk'
    have hrowA0:∀ w,cO w0 [] w ([.own (.slice (some ⟨go,0,none⟩) (n+1) (n+1)) 3 1 (n+1) (ax (List.replicate (n+1) (-1))),.own (.slice (some ⟨g,0,none⟩) (n+1) (n+1)) 23 1 (n+1) (rows.map cz),.own (.slice A1 (2*N.arcs.length) c1) 2 1 (2*N.arcs.length) (ax rm),blk p 33 (bI N A c),.seg b o (arcs N.arcs),.seg bf of (ax f)]++rows.map (aZ 3))->
     ∀ v:Nat,∃ gv:Nat,∀ row,rows[v]?=some row->row.l.length<=row.c/\(ax row.l≠[]->row.A=some ⟨gv,0,none⟩):=by
     intro w hw v
     cases hv:rows[v]? with
     |none=>exact⟨0,λ row h=>by cases h⟩
     |some row=>
      obtain⟨_,h2,h3,h4⟩:=aW (X:=⟨w0,[],⟨0,[]⟩⟩) (v+6) (show _=some (aZ 3 row) by show (rows.map (aZ 3))[v]?=_;rw[GC,hv];rfl) w hw;obtain⟨gv,hgv⟩:=bL h3 h4;exact⟨gv,λ row' h=>by simp only[Gs] at h;subst h;exact⟨h2,hgv⟩⟩
    refine bh hrowA0 λ hrowA=>?_;obtain⟨gv,hgv⟩:∃ gv:Nat->Nat,∀ (v:Nat) (row:d9),rows[v]?=some row->row.l.length<=row.c/\(ax row.l≠[]->row.A=some ⟨gv v,0,none⟩):=⟨λ v=>Classical.choose (hrowA v),λ v=>Is (hrowA v)⟩;refine bh (aW 2 rfl) λ ⟨_,_,hA1,_⟩=>?_
    clear hrowA hrowA0
    have hsrc:=hR.src;obtain⟨s0,hs0⟩:∃ s:Nat,N.src=s:=⟨N.src.toNat,by omega⟩;refine ad (aa ?_);refine bo rfl rfl rfl (λ _=>rfl) λ pw=>?_;refine bo rfl rfl rfl (λ _=>rfl) λ px=>?_;refine ae [] rfl ?_;refine ad (aa (ah [] rfl ?_))
    (first|refine ab [] (af 0 rfl) rfl ?_|refine ab [] (af 1 rfl) rfl ?_|refine ab [] (af 2 rfl) rfl ?_|refine ab [] (af 3 rfl) rfl ?_|refine ab [] (af 4 rfl) rfl ?_|refine ab [] (af 5 rfl) rfl ?_|refine ab [] (af 6 rfl) rfl ?_|refine ab [] (af 7 rfl) rfl ?_)
    refine aI 80 (v':=.int .i64 (s0:Int)) rfl (Gt (Value.int .i64) hs0) ?_;refine ab [] (aG rfl (by omega)) rfl ?_;refine aO 2 rfl rfl rfl rfl (dU rfl (by simp;omega)) [] rfl ?_;refine ai ?_;refine cd 3 1 ?_;refine ad (aa (ah [] rfl ?_));refine ab [] (v:=.slice none 0 0) (af 1 rfl) rfl ?_;refine ah [] rfl ?_
    (first|refine ab [] (af 0 rfl) rfl ?_|refine ab [] (af 1 rfl) rfl ?_|refine ab [] (af 2 rfl) rfl ?_|refine ab [] (af 3 rfl) rfl ?_|refine ab [] (af 4 rfl) rfl ?_|refine ab [] (af 5 rfl) rfl ?_|refine ab [] (af 6 rfl) rfl ?_|refine ab [] (af 7 rfl) rfl ?_)
    refine aI 84 (v':=.int .i64 (s0:Int)) rfl (Gt (Value.int .i64) hs0) ?_;refine bF rfl rfl rfl rfl rfl rfl rfl (λ _=>rfl) λ g3=>?_;refine bv (n:=0) (m:=1) (off:=0) (news:=ax [(s0:Int)]) 1 0 rfl rfl rfl rfl rfl rfl (by decide) rfl rfl (aF g3 _ _ (0,0)) (λ _=>rfl) rfl rfl (by omega) (by omega) (λ _ _=>rfl) λ A3 c3=>?_;refine aA 2 rfl [] rfl ?_;refine ai ?_;refine ad (aa (ae [] rfl ?_));refine ad (ad (aa (ae [] rfl ?_)));refine cd 3 1 ?_;refine au ?_;have hgl:∀ (v:Nat) (row:d9),rows[v]?=some row->row.l=tr N (2*N.arcs.length) v:=λ v row h=>htr v row h;show J _ _ _ _ ([_,_,_,_,_,_,_,_,_,_,_]++rows.map (aZ 3))
    refine b6 (σ:=LS) (λ s=>[(19,.int .i64 s.k),(18,.func (.func 132) #[] #[.pointer (some ⟨px,0,none⟩),.pointer (some ⟨pw,0,none⟩)]),(17,.pointer (some ⟨px,0,none⟩)),(16,.pointer (some ⟨pw,0,none⟩)),(11,.slice (some ⟨go,0,none⟩) (n+1) (n+1)),(10,.slice (some ⟨g,0,none⟩) (n+1) (n+1)),(8,.slice A1 (2*N.arcs.length) c1),(3,.pointer (some ⟨p,0,none⟩)),(2,.int .i64 least)])
     (λ s=>[blk px 23 [.slice s.Ax s.fr.length s.cx],blk pw 23 [.slice s.An s.nw.length s.cn],.own (.slice s.Ax s.fr.length s.cx) 3 1 s.fr.length (ax (s.fr.map λ (i:Nat)=>(i:Int))),.own (.slice s.An s.nw.length s.cn) 3 1 s.nw.length (ax s.nw),
      .own (.slice (some ⟨go,0,none⟩) (n+1) (n+1)) 3 1 (n+1) (ax s.lv),.own (.slice (some ⟨g,0,none⟩) (n+1) (n+1)) 23 1 (n+1) (rows.map cz),.own (.slice A1 (2*N.arcs.length) c1) 2 1 (2*N.arcs.length) (ax rm),blk p 33 (bI N A c),.seg b o (arcs N.arcs),.seg bf of (ax f)]++rows.map (aZ 3))
     (λ s=>LH N rm least s.k s.fr s.lv) (λ s=>2*s.lv.count (-1)+s.fr.length)
     ⟨1,[s0],A3,c3,[],none,0,(List.replicate (n+1) (-1)).set s0 0⟩ ⟨rfl,rfl,rfl,rfl,rfl,rfl,rfl,rfl,rfl,an⟩ (aH.re [3,4,2,0,5,6,7,8,9,10] rfl (by decide)) ?_ ?_
    ·have:=LH.init (rm:=rm) (least:=least) hR;rw[hs0,hn,GW,GW] at this;exact this
    rintro⟨k,fr,Ax,cx,nw,An,cn,lv⟩ hI;simp only at hI ⊢;have hcnt:=hI.cnt;have hk1:=hI.k1;rw[hn,GW] at hcnt;refine ad (ad (aa (ah [] rfl ?_)));show JL _ _ _ _ _ ([_,_]++([_,_,_,_,_,_,_,_]++rows.map (aZ 3)));refine aw (fst:=[]) (vs:=[]) (cap:=[.pointer (some ⟨px,0,none⟩),.pointer (some ⟨pw,0,none⟩)]) [] (Do px pw Ax An fr.length cx nw.length cn) rfl rfl rfl rfl (by kernel_rfl) aH.refl an (λ _=>rfl) ?_;rintro v H' ⟨rfl,rfl⟩;refine⟨rfl,?_⟩;refine ai ?_;refine aC rfl (λ hne=>aq ?_) (λ hne=>bc ?_)
    ·have hfne:fr≠[]:=by rintro rfl;simp at hne
     refine bJ (aH.shrink (m:=0) 3 rfl (GB _)) ?_;show J _ _ _ _ ([_,_,_,_,_,_,_,_,_,_]++rows.map (aZ 3));refine bh (aW 2 rfl) λ ⟨_,_,hAx,_⟩=>?_;obtain⟨gx,rfl⟩:=hAx (Hc.2 hfne);refine ad (au ?_);refine ad (aa (ah [] rfl ?_))
     (first|refine ab [] (af 0 rfl) rfl ?_|refine ab [] (af 1 rfl) rfl ?_|refine ab [] (af 2 rfl) rfl ?_|refine ab [] (af 3 rfl) rfl ?_|refine ab [] (af 4 rfl) rfl ?_|refine ab [] (af 5 rfl) rfl ?_|refine ab [] (af 6 rfl) rfl ?_|refine ab [] (af 7 rfl) rfl ?_)
     refine ae [] rfl ?_;refine au ?_
     refine b6 (σ:=Nat×LN×OA×Nat×LI) (λ s=>[(94,.int .i64 s.1),(93,.int .i64 fr.length),(92,.slice (some ⟨gx,0,none⟩) fr.length cx),(19,.int .i64 k),(18,.func (.func 132) #[] #[.pointer (some ⟨px,0,none⟩),.pointer (some ⟨pw,0,none⟩)]),(17,.pointer (some ⟨px,0,none⟩)),(16,.pointer (some ⟨pw,0,none⟩)),(11,.slice (some ⟨go,0,none⟩) (n+1) (n+1)),(10,.slice (some ⟨g,0,none⟩) (n+1) (n+1)),(8,.slice A1 (2*N.arcs.length) c1),(3,.pointer (some ⟨p,0,none⟩)),(2,.int .i64 least)])
      (λ s=>[blk px 23 [.slice s.2.2.1 s.2.1.length s.2.2.2.1],blk pw 23 [.slice (some ⟨gx,0,none⟩) fr.length cx],.own (.slice (some ⟨gx,0,none⟩) fr.length cx) 3 1 fr.length (ax (fr.map λ (i:Nat)=>(i:Int))),.own (.slice s.2.2.1 s.2.1.length s.2.2.2.1) 3 1 s.2.1.length (ax (s.2.1.map λ (i:Nat)=>(i:Int))),
       .own (.slice (some ⟨go,0,none⟩) (n+1) (n+1)) 3 1 (n+1) (ax s.2.2.2.2),.own (.slice (some ⟨g,0,none⟩) (n+1) (n+1)) 23 1 (n+1) (rows.map cz),.own (.slice A1 (2*N.arcs.length) c1) 2 1 (2*N.arcs.length) (ax rm),blk p 33 (bI N A c),.seg b o (arcs N.arcs),.seg bf of (ax f)]++rows.map (aZ 3))
      (λ s=>s.1<=fr.length/\LV N rm least k fr s.1 0 s.2.1 s.2.2.2.2/\2*s.2.2.2.2.count (-1)+2*s.2.1.length=2*lv.count (-1)) (λ s=>fr.length-s.1)
      (0,[],An,cn,lv) ⟨rfl,rfl,rfl,rfl,rfl,rfl,rfl,rfl,rfl,rfl,rfl,rfl,an⟩ (aH.re [0,1,2,3,4,5,6,7,8,9] rfl (by decide)) ⟨GB _,hI.turn hfne,rfl⟩ ?_
     rintro⟨i,nxt,Ay,cy,lw⟩ ⟨hil,hV,hct⟩;simp only at hil hV hct ⊢;have hvc:=hV.cnt;rw[hn,GW] at hvc;have hwl:=hV.len;rw[hn,GW] at hwl;refine ad (aa (ae [] rfl ?_));refine ad (aC rfl (λ hlt=>aq ?_) (λ hge=>bc ?_))
     ·have hlt:i<fr.length:=by omega
      obtain⟨v,hv⟩:∃ v,fr[i]?=some v:=⟨fr[i],Gq hlt⟩;have hvm:(fr.map λ (i:Nat)=>(i:Int))[i]?=some (v:Int):=by rw[GC,hv];rfl
      have hvl:=(hV.old v).2 (Gu hv)
      have hvn:v<rows.length:=by
       refine Nat.lt_of_not_le λ h=>?_;rw[xh (by omega)] at hvl;omega
      obtain⟨row,hrow⟩:∃ row,rows[v]?=some row:=⟨rows[v],Gq hvn⟩;have hrowl:=hgl v row hrow;have hrowlen:=lh N (2*N.arcs.length) v;rw[<- hrowl] at hrowlen;refine ad (au ?_);refine ad (aa (ah [] rfl ?_));refine ab [] (aG rfl hlt) rfl ?_;refine ab [] (aD (v:=.int .i64 (v:Int)) 2 rfl rfl rfl (dx hvm)) rfl ?_;refine ae [] rfl ?_;refine ad (aa (ah [] rfl ?_));refine ab [] (aG rfl (by omega)) rfl ?_;refine ab [] (aD (v:=.slice row.A row.l.length row.c) 5 rfl rfl rfl (show (rows.map cz)[v]?=some (cz row) by rw[GC,hrow];rfl)) rfl ?_;refine ae [] rfl ?_;refine au ?_
      refine b6 (σ:=Nat×LN×OA×Nat×LI) (λ s=>[(103,.int .i64 s.1),(102,.int .i64 row.l.length),(101,.slice row.A row.l.length row.c),(94,.int .i64 i),(93,.int .i64 fr.length),(92,.slice (some ⟨gx,0,none⟩) fr.length cx),(19,.int .i64 k),(18,.func (.func 132) #[] #[.pointer (some ⟨px,0,none⟩),.pointer (some ⟨pw,0,none⟩)]),(17,.pointer (some ⟨px,0,none⟩)),(16,.pointer (some ⟨pw,0,none⟩)),(11,.slice (some ⟨go,0,none⟩) (n+1) (n+1)),(10,.slice (some ⟨g,0,none⟩) (n+1) (n+1)),(8,.slice A1 (2*N.arcs.length) c1),(3,.pointer (some ⟨p,0,none⟩)),(2,.int .i64 least)])
       (λ s=>[blk px 23 [.slice s.2.2.1 s.2.1.length s.2.2.2.1],blk pw 23 [.slice (some ⟨gx,0,none⟩) fr.length cx],.own (.slice (some ⟨gx,0,none⟩) fr.length cx) 3 1 fr.length (ax (fr.map λ (i:Nat)=>(i:Int))),.own (.slice s.2.2.1 s.2.1.length s.2.2.2.1) 3 1 s.2.1.length (ax (s.2.1.map λ (i:Nat)=>(i:Int))),
        .own (.slice (some ⟨go,0,none⟩) (n+1) (n+1)) 3 1 (n+1) (ax s.2.2.2.2),.own (.slice (some ⟨g,0,none⟩) (n+1) (n+1)) 23 1 (n+1) (rows.map cz),.own (.slice A1 (2*N.arcs.length) c1) 2 1 (2*N.arcs.length) (ax rm),blk p 33 (bI N A c),.seg b o (arcs N.arcs),.seg bf of (ax f)]++rows.map (aZ 3))
       (λ s=>s.1<=row.l.length/\LV N rm least k fr i s.1 s.2.1 s.2.2.2.2/\2*s.2.2.2.2.count (-1)+2*s.2.1.length=2*lv.count (-1)) (λ s=>row.l.length-s.1)
       (0,nxt,Ay,cy,lw) ⟨rfl,rfl,rfl,rfl,rfl,rfl,rfl,rfl,rfl,rfl,rfl,rfl,rfl,rfl,rfl,an⟩ aH.refl ⟨GB _,hV,hct⟩ ?_
      clear hvc hwl hV hct
      rintro⟨j,nxt,Ay,cy,lw⟩ ⟨hjl,hV,hct⟩;simp only at hjl hV hct ⊢;have hvc:=hV.cnt;rw[hn,GW] at hvc;have hwl:=hV.len;rw[hn,GW] at hwl;refine ad (aa (ae [] rfl ?_));refine ad (aC rfl (λ hlt2=>aq ?_) (λ hge=>bc ?_))
      ·have hlt2:j<row.l.length:=by omega
       obtain⟨y,hy⟩:∃ y,row.l[j]?=some y:=⟨row.l[j],Gq hlt2⟩;have hymem:=Gu hy;rw[hrowl] at hymem;obtain⟨r,hr,hru,rfl⟩:=r6.1 hymem;have hin:=fG hR hr;obtain⟨te,htn1,htn2⟩:=gU hR hr;obtain⟨t,ht⟩:∃ t,eV N r=t:=⟨_,rfl⟩;rw[ht] at te htn1 htn2;have hfr:dC N r=v:=by unfold dC;omega
       obtain⟨x,hxr⟩:∃ x,rm[r]?=some x:=⟨rm[r]'(by omega),Gq (by omega)⟩;have hxd:rm.getD r 0=x:=by rw[Gw,hxr];rfl
       have hlt3:t<lw.length:=by omega
       obtain⟨gr,rfl⟩:=hA1 (by omega)
       have hrowne:ax row.l≠[]:=by
        intro h0;have:row.l.length=0:=by rw[<- bK,h0];rfl
        omega
       have hrA:=(hgv v row hrow).2 hrowne;have hjr:∃ u,fr[i]?=some u/\(tr N (2*N.arcs.length) u)[j]?=some (r:Int):=⟨v,hv,hrowl▸hy⟩;have hnext:IntKind.i64.wrap ((j:Int)+1)=((j+1:Nat):Int):=cv (by omega);refine ad (au ?_);refine ad (aa (ah [] rfl ?_));refine ab [] (Fm (b:=gv v) (off:=0) rfl (by rw[hrA];rfl) rfl rfl rfl hlt2) rfl ?_
       refine ab [] (dr (b:=gv v) (off:=0) (i:=j) (cs:=ax row.l) (v:=.int .i64 (r:Int)) (c:=aZ 3 row) (v+10) rfl rfl (show (rows.map (aZ 3))[v]?=_ by rw[List.getElem?_map,hrow];rfl)
        (aE (e:=3) (sz:=1) (n:=row.l.length) (cap:=row.c) (λ _=>hrA)) (dx hy)) rfl ?_
       refine ae [] rfl ?_;refine ad (aa ?_);refine ab [] (v:=bp N A c) (af 7 rfl) rfl ?_;refine ah [] rfl ?_;refine ap [] (gC N A c b o hA hl2 r hr) rfl (by kernel_rfl) ⟨⟨8,_,by simp,rfl,ak _ _ _,av⟩,an⟩ (λ _=>rfl) ?_;rintro v' H' ⟨rfl,rfl⟩;refine⟨rfl,?_⟩;refine ae [] rfl ?_;refine a7 25 (v':=.int .i64 (t:Int)) rfl (Gt (Value.int .i64) te) ?_;refine ad (aa (ah [] rfl ?_));refine ab [] (aG rfl (by omega)) rfl ?_;refine ab [] (aD 6 rfl rfl rfl (bD hxr)) rfl ?_;refine ah [] rfl ?_;have hyes:∀ E2:Env,True:=λ _=>trivial;have hskip:rm.getD r 0<least\/cM lw (eV N r)≠-1->LV N rm least k fr i (j+1) nxt lw:=λ h=>hV.pass hjr h;by_cases hge:least<=x
       ·refine bd 119 rfl hge ?_;refine ah [6] rfl ?_;refine ab [6] (aG rfl (by omega)) rfl ?_;refine ab [6] (aD 4 rfl rfl rfl (be (kp hlt3))) rfl ?_;refine ae [6] rfl ?_;refine aC rfl (fun hnone=>?_) (fun hsome=>aq ?_)
        ·have hput:=hV.put (r:=r) ⟨v,hv,hfr,hrowl▸hy⟩ hr ⟨by omega,by omega⟩ (by omega) (by rw[ht];exact hnone);have hcs:=gt lw t (k:Int) (by rw[kp hlt3,hnone]) (by omega);rw[ht] at hput;refine ad (aa (ah [] rfl ?_));refine ab [] (aG rfl (by omega)) rfl ?_;refine aO 4 rfl rfl rfl rfl (dU rfl hlt3) [] rfl ?_;refine ai ?_;refine aa (ah [] rfl ?_);refine ab [] (v:=.slice Ay nxt.length cy) (af 0 rfl) rfl ?_;refine ah [] rfl ?_;refine bF rfl rfl rfl rfl rfl rfl rfl (λ _=>rfl) λ g4=>?_;refine bv (n:=nxt.length) (m:=1) (off:=0) (news:=ax [(t:Int)]) 4 0 rfl rfl rfl rfl rfl rfl (by decide) rfl rfl (aF g4 _ _ (0,0)) (λ _=>rfl) rfl rfl (by omega) (by omega) (λ _ _=>rfl) λ A4 c4=>?_;rw[show nxt.length+1=(nxt++[t]).length by simp,show ax (nxt.map λ (i:Nat)=>(i:Int))++ax [(t:Int)]=ax ((nxt++[t]).map λ (i:Nat)=>(i:Int)) by simp[ax]];refine aA 1 rfl [] rfl ?_;refine ai ?_;refine aa (ae [] rfl ?_);show ∃ s',_/\aH _ ([_,_,_,_,_,_,_,_,_,_,_]++rows.map (aZ 3)) _/\_;exact⟨(j+1,nxt++[t],A4,c4,lw.set t (k:Int)),⟨Gt some (Gt (Value.int .i64) hnext),rfl,rfl,rfl,rfl,rfl,rfl,rfl,rfl,rfl,rfl,rfl,rfl,rfl,rfl,an⟩,aH.re [1,2,3,4,5,6,7,8,9,10] rfl (by decide),⟨by simp only;omega,hput,by simp only[Gx,G2];omega⟩,by simp only;omega⟩
        ·skip
         refine aa (ae [] rfl ?_);exact⟨(j+1,nxt,Ay,cy,lw),⟨Gt some (Gt (Value.int .i64) hnext),rfl,rfl,rfl,rfl,rfl,rfl,rfl,rfl,rfl,rfl,rfl,rfl,rfl,rfl,an⟩,aH.refl,⟨by simp only;omega,hskip (.inr (by rw[ht];exact hsome)),hct⟩,by simp only;omega⟩
       ·refine aX 119 rfl hge ?_;refine ae [6] rfl ?_;refine bG rfl (aq ?_);refine aa (ae [] rfl ?_);exact⟨(j+1,nxt,Ay,cy,lw),⟨Gt some (Gt (Value.int .i64) hnext),rfl,rfl,rfl,rfl,rfl,rfl,rfl,rfl,rfl,rfl,rfl,rfl,rfl,rfl,an⟩,aH.refl,⟨by simp only;omega,hskip (.inl (by omega)),hct⟩,by simp only;omega⟩
      ·have hV':=hV.row (λ u hu=>by
        rw[hv] at hu;simp only[Gs] at hu;rw[<- hu,<- hrowl];omega)
       refine aa (ae [] rfl ?_);exact⟨(i+1,nxt,Ay,cy,lw),⟨Gt some (Gt (Value.int .i64) (cv (by omega))),rfl,rfl,rfl,rfl,rfl,rfl,rfl,rfl,rfl,rfl,rfl,an⟩,aH.refl,⟨by simp only;omega,hV',hct⟩,by simp only;omega⟩
     ·have hH:=hV.final (by omega);refine aa (ae [] rfl ?_)
      exact⟨⟨k+1,nxt,Ay,cy,fr.map λ (i:Nat)=>(i:Int),some ⟨gx,0,none⟩,cx,lw⟩,⟨Gt some (Gt (Value.int .i64) (cv (by omega))),rfl,rfl,rfl,rfl,rfl,rfl,rfl,rfl,an⟩,by
       simp only[GA];exact aH.re [0,1,3,2,4,5,6,7,8,9] rfl (by decide),hH,by simp only;have:=Hc.2 hfne;omega⟩
    ·have hf0:fr=[]:=GM.1 (by omega);subst hf0;refine ad (aa (ae [] rfl ?_));refine az [4] (by decide) rfl (ay ⟨_,rfl,.inl ⟨hW,by omega,lv,go,?_,rfl,rfl⟩⟩);rw[<- hrm];exact hI.lev hR
end Go.Proofs.YtmcnpaelaieniaaGreatDoor
