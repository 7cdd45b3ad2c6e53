import Derived.Test.YtmcnpaelaieniaaGreatDoorQX131
import Derived.Test.YtmcnpaelaieniaaGreatDoorQD
/- A part of the proof. -/
set_option linter.unusedVariables false
set_option linter.unusedSimpArgs false
set_option maxHeartbeats 8000000
namespace Go.Proofs.YtmcnpaelaieniaaGreatDoor
open Go.RowKit
theorem oZ(l:LI_)(k:Nat):aj (l.drop k)=(aj l).drop k:=by unfold aj;rw[List.map_drop]
theorem yu{l:LI_}{k:Nat}(f:k<=l.length)(h:∀ j x,j<k->l[j]?=some x->i6 x=false):b5 l=k+(l.drop k).findIdx i6:=by
 have e:l=l.take k++l.drop k:=(Oa k l).symm;unfold b5
 conv=>lhs;rw[e,List.findIdx_append]
 have c:(l.take k).findIdx i6=(l.take k).length:=PA.2 λ x d=>by
  obtain⟨j,b⟩:=On.1 d;have a:j<k:=by have:=(Ng.1 b).1;rw[NE] at this;omega
  rw[P3,if_pos a] at b;exact h j x a b
 rw[c,if_neg aa,NE];omega
theorem xX(N:aV)(A:OA_)(c:Nat)(left:LI_)(u:left.length<=2000)(d:OA_)(a bl:Nat)(m:left.length<=a)(p:left≠[]->d=some ⟨bl,0,none⟩)(val:Int)(Ao:OA_)(no co:Nat)(k:Nat)(s:k<=left.length)(e:∀ j x,j<k->left[j]?=some x->i6 x=false)(g:Nat):
 Fn 178 [.pointer (some ⟨g,0,none⟩)] (aC [blk g 256 (pH N A c d left.length a val Ao no co (k:Int))]) ([.seg bl 0 (aj left)]++[blk g 256 (pH N A c d left.length a val Ao no co (k:Int))]) λ v H'=>v=.bool (dR (b5 left<left.length))/\H'=[blk g 256 (pH N A c d left.length a val Ao no co (b5 left:Nat))]:=by
 generalize hM:aC _=M
 refine aT Tryz.func178 λ w0=>?_;have w:=yu s e;have y:b5 left<=left.length:=by unfold b5;exact List.findIdx_le_length
 refine iL ?_;refine bM 17 (dT [0,1,2,3,4,5,6,7,8,9,10,11,12]++[(13,false)]++dT [14,15,16]) [0,1] aX ab rfl<|a9 ?_;refine bh (v:=af (k:Int)) rfl (ad 1 rfl) ?_;refine a9 ?_;refine bh (v:=.slice d left.length a) rfl (ad 1 rfl) ?_;refine a9 ?_;refine bh (v:=af (k:Int)) rfl (ad 1 rfl) ?_;refine bh rfl (f5 (i:=k) rfl rfl rfl rfl rfl s) ?_;refine jI ?_;have q:(left.drop k).length=left.length-k:=Oe
 have t:=A9 (fA d a k 1) (a-k) bl k (left.drop k) (λ r=>by
  have f:k<left.length:=by
   refine NG λ h=>r (List.drop_eq_nil_iff.2 aa)
  have:=eS (A:=d) (c:=a) (l:=k) (n:=left.length) (sz:=1) (b:=bl) (o:=0) (λ _=>p (by rintro rfl;simp at f)) m f;rw[this];simp) aa
 rw[q,oZ] at t;refine cj (fst:=[]) (cap:=[]) t rfl ⟨fX 0 rfl (by have:=dz (bq bl 0 (aj left)) k;rw[NR] at this;exact this) ((show aj left=[]\/(aY.seg bl 0 (aj left)).at_=some bl from cC).imp (λ h=>by rw[h,List.drop_nil]) id),an⟩ ?_;refine b6 [0,1]<|hZ [] rfl<|aA 17 (v':=af ((b5 left:Nat):Int)) rfl (Na (Value.int .i64) (by rw[cp aa];omega))<|dE 1 ?_;refine fC ?_;refine bM 11 (dT [0,1,2,3,4,5,6,7,8,9,10]) [0,1] aX ab rfl<|a9 ?_;refine bh (v:=af ((b5 left:Nat):Int)) rfl (ad 1 rfl) ?_;refine a9 ?_;refine bh (v:=.slice d left.length a) rfl (ad 1 rfl) ?_;refine hZ [] rfl<|fC ?_;refine aM [1] ⟨_,rfl,Na Value.bool (ey aa),rfl⟩
theorem JX(a b:Nat)(Ax An:OA_)(c cx d cn:Nat):Fn 132 [.pointer (some ⟨a,0,none⟩),.pointer (some ⟨b,0,none⟩)] (aC [blk a 23 [.slice Ax c cx],blk b 23 [.slice An d cn]])
 ([]++[blk a 23 [.slice Ax c cx],blk b 23 [.slice An d cn]]) λ v H'=>v=.bool (dR (0<c))/\H'=[blk a 23 [.slice An 0 cn],blk b 23 [.slice Ax c cx]]:=by
 refine aT Tryz.func132 λ w0=>?_;refine ao ?_;refine fN [(0,ap a 0),(1,ap b 0)] [blk a 23 [.slice An 0 cn],blk b 23 [.slice Ax c cx]] ?_ ?_
 ·refine MF ?_
  (repeat' (first|exact an|refine Jc bG ⟨[0,1],a7,ab,rfl⟩|refine kW 0 [1] bG ?_|refine kW 0 [2] bG ?_|refine kW 2 [3] bG ?_|refine kW 0 [] bG ?_|refine kW 1 [] bG ?_|refine kW 2 [] bG ?_|refine kW 3 [] bG ?_|refine kW 4 [] bG ?_|refine⟨⟨_,rfl,?_⟩,?_⟩|refine ae [] (ad 0 rfl) rfl ?_|refine ae [] (ad 1 rfl) rfl ?_|refine ae [] (jG (i:=0) rfl rfl rfl rfl rfl (Nl _)) rfl ?_|refine fG 1 rfl [] rfl ?_|refine fG 0 rfl [] rfl ?_|refine ah ?_))
 refine aI ?_;refine bj 1 ?_;refine aN ?_;refine aM [0,1] ⟨_,rfl,Na Value.bool (ey aa),rfl⟩
def MV(N:aV)(f:LI_)(least:Int)(n:Nat)(v:Value)(H':Heap):Prop:=
 (aD N f/\1<=least/\∃ (lv:LI_) (g:Nat),fw N (bc (N.arcs.zip f)) least lv/\v=.tuple #[.slice (some ⟨g,0,none⟩) (n+1) (n+1),.int .i64 0]/\
  H'=[.own (.slice (some ⟨g,0,none⟩) (n+1) (n+1)) 3 1 (n+1) (aj lv)])\/
 (¬ aD N f/\v=.tuple #[.slice none 0 0,.int .i64 (eP N f)]/\H'=[])\/(aD N f/\least<1/\v=.tuple #[.slice none 0 0,.int .i64 3]/\H'=[])
structure LS where
 k:Nat
 fr:LN_
 Ax:OA_
 cx:Nat
 nw:LI_
 An:OA_
 cn:Nat
 lv:LI_
theorem Do(N:aV)(hN:N.Fits)(Z:N.Right)(A:OA_)(c b o:Nat)(hA:N.arcs≠[]->A=some ⟨b,o,none⟩)(f:LI_)(F:OA_)(cf bf of:Nat)(hF:f≠[]->F=some ⟨bf,of,none⟩)(hf:∀ x∈f,b7 x)(n1:f.length*8<=140737488351232)(least:Int)
 (n:Nat) (hn:N.nodes=n):Fn 109 [bZ N A c,.slice F f.length cf,.int .i64 least] [] [.seg b o (arcs N.arcs),.seg bf of (aj f)] (MV N f least n):=by
 have b1:=Z.nodes;have hd:=Z.len;refine aT Tryz.func109 λ w0=>?_;refine bu ?_;refine cY (cs:=bU N A c) λ p=>?_;refine ie ?_;refine dG (xn N hN Z A c b o hA f F cf bf of hF hf n1) rfl ⟨bz 1 rfl,bz 2 rfl,an⟩ ?_;rintro v H' (⟨hW,A1,I,rfl,rfl⟩|⟨hW,rfl,rfl⟩)
 case inr=>
  refine r6 ?_;refine ak rfl (λ h=>?_) (λ h=>absurd (cZ.1 (No.1 h)) hW);refine ao ?_;refine aM [] ⟨_,rfl,.inr (.inl ⟨hW,rfl,rfl⟩)⟩
 refine r6 ?_;refine ak rfl (λ h=>absurd rfl h) (λ _=>?_);refine ao ?_;refine ak rfl (λ h=>?_) (λ hle=>ag ?_)
 ·refine ao ?_;refine aM [] ⟨_,rfl,.inr (.inr ⟨hW,h,rfl,rfl⟩)⟩
 obtain⟨rm,hs⟩:∃ rm,rm=bc (N.arcs.zip f):=⟨_,rfl⟩;have a1:rm.length=2*N.arcs.length:=by rw[hs,d8,O0,hW.len,Pn]
 rw[<- hs];refine pR ?_;refine aA 41 (v':=af ((n+1:Nat):Int)) rfl (Na (Value.int .i64) ((cp (n:=N.nodes+1) aa).trans aa))<|cX (n:=n+1) (c:=n+1) rfl rfl rfl rfl rfl rfl aa aa aa aK λ g=>dQ ?_;refine bj 2 ?_;refine az ?_;refine aA 45 (v':=af ((n+1:Nat):Int)) rfl (Na (Value.int .i64) ((cp (n:=N.nodes+1) aa).trans aa))<|cX (n:=n+1) (c:=n+1) rfl rfl rfl rfl rfl rfl aa aa aa aK λ go=>aN ?_;rw[show made [Value.slice none 0 0] ((n+1)*1)=(List.replicate (n+1) en).map cT by rw[c8,NT,OI];rfl];rw[show made [af 0] ((n+1)*1)=aj (List.replicate (n+1) 0) by rw[c8,NT];simp[aj]];refine jn ?_
 refine bP (σ:=Nat) (λ k=>[(49,af k),(48,af ((n+1:Nat):Int)),(11,ax go 0 (n+1) (n+1)),(10,ax g 0 (n+1) (n+1)),(8,.slice A1 (2*N.arcs.length) I),(3,ap p 0),(2,af least)])
  (λ k=>[.own (ax go 0 (n+1) (n+1)) 3 1 (n+1) (aj (List.replicate k (-1)++List.replicate (n+1-k) 0)),.own (ax g 0 (n+1) (n+1)) 23 1 (n+1) ((List.replicate (n+1) en).map cT),.own (.slice A1 (2*N.arcs.length) I) 2 1 (2*N.arcs.length) (aj rm),blk p 33 (bU N A c),.seg b o (arcs N.arcs),.seg bf of (aj f)])
  (λ k=>k<=n+1) (λ k=>n+1-k) 0 [0,1,2,3,4,5] a7 ab rfl (Nl _) ?_
 ·intro k hk;refine ao ?_;refine am (ak rfl (λ hlt=>ag ?_) (λ H=>aO ?_))
  ·have hlt:k<n+1:=by omega
   refine am (aq ?_);refine c9 ?_;refine aF (bn rfl hlt) ?_;refine aW 0 rfl rfl rfl rfl (fh rfl eK) [] rfl<|dv ?_;refine⟨k+1,[0,1,2,3,4,5],⟨?_,rfl,rfl,rfl,rfl,rfl,rfl,an⟩,ab,?_,aa,aa⟩
   ·refine fy ?_;rw[cp aa];rfl
   ·rw[show List.replicate (k+1) (-1:Int)++List.replicate (n+1-(k+1)) 0=(List.replicate k (-1)++List.replicate (n+1-k) 0).set k (-1) by
     rw[OF _ _ ai,NP,OE,show n+1-k=(n+1-(k+1))+1 by omega,Oo (n:=n+1-(k+1)),OW,List.replicate_succ' (n:=k),NQ];rfl]
    rfl
  ·obtain rfl:k=n+1:=by omega
   rw[OE,List.replicate_zero,NN];refine jn ?_;refine bS (ay.nils 3 (n+1)) ?_
   refine cA (σ:=Nat×List fg) (λ s=>[(58,af s.1),(57,af ((2*N.arcs.length:Nat):Int)),(56,.slice A1 (2*N.arcs.length) I),(11,ax go 0 (n+1) (n+1)),(10,ax g 0 (n+1) (n+1)),(8,.slice A1 (2*N.arcs.length) I),(3,ap p 0),(2,af least)])
    (λ s=>[.own (ax go 0 (n+1) (n+1)) 3 1 (n+1) (aj (List.replicate (n+1) (-1))),.own (ax g 0 (n+1) (n+1)) 23 1 (n+1) (s.2.map cT),.own (.slice A1 (2*N.arcs.length) I) 2 1 (2*N.arcs.length) (aj rm),blk p 33 (bU N A c),.seg b o (arcs N.arcs),.seg bf of (aj f)]++s.2.map (bd 3))
    (λ s=>s.1<=2*N.arcs.length/\s.2.length=n+1/\∀ (v:Nat) (r:fg),s.2[v]?=some r->r.l=tr N s.1 v) (λ s=>2*N.arcs.length-s.1)
    (0,List.replicate (n+1) en) a7 ay.refl ⟨Nl _,ai,λ v r h=>?_⟩ ?_
   ·rw[Nw] at h;split at h
    ·simp only[Nc] at h;subst h;rfl
    ·cases h
   rintro⟨k,rows⟩ ⟨hk,ha,h1⟩;simp only at hk ha h1 ⊢;refine ao ?_;refine am (ak rfl (λ hlt=>ag ?_) (λ H=>aO ?_))
   ·have hlt:k<2*N.arcs.length:=by omega
    have he:=jL Z hlt;obtain⟨v,Y⟩:∃ v:Nat,(df N k).1=v:=⟨(df N k).1.toNat,aa⟩;have K:v<rows.length:=aa;obtain⟨row,d⟩:∃ r,rows[v]?=some r:=⟨rows[v],be K⟩;have hq:=h1 v row d;have hlen:=oI N k v;rw[<- hq] at hlen;refine am (aq ?_);refine mM ?_;refine qa ?_;refine cj (jz N A c b o hA hd k hlt) rfl ⟨bz 4 rfl,an⟩ ?_;refine aN ?_;refine bD 14 (v':=af (v:Int)) rfl (Na (Value.int .i64) Y)<|aI ?_;refine ip ?_;refine aF (aw (v:=cT row) 1 rfl rfl rfl (show (rows.map cT)[v]?=some (cT row) by rw[Nk,d];rfl)) ?_;refine az ?_;refine dp λ g2=>?_;show JL _ _ _ _ _ ([_,_,_,_,_,_,_]++rows.map (bd 3));refine cD (ay.front (i:=v) (c:=bd 3 row) (by rw[Nk,d];rfl)) ?_;refine bx (n:=row.l.length) (m:=1) (off:=0) (news:=aj [(k:Int)]) 0 1 rfl rfl rfl rfl rfl rfl ab rfl rfl (aS g2 _ _ (0,0)) aK rfl rfl aa aa (λ _ _=>rfl) λ A2 c2=>Bg ?_;refine ip ?_;refine aW 3 rfl rfl rfl rfl (fz rfl rfl rfl (by rw[Nm];omega)) [] rfl<|dv ?_;refine⟨(k+1,rows.set v ⟨A2,c2,row.l++[(k:Int)]⟩),⟨?_,rfl,rfl,rfl,rfl,rfl,rfl,rfl,an⟩,?_,⟨by simp only;omega,by simp only[NO];omega,λ u r hu=>?_⟩,by simp only;omega⟩
    ·refine fy ?_;rw[cp aa];rfl
    ·simp only[O1];refine ay.trans (ay.sub (List.Sublist.cons_cons _ (NW _ _))) (ay.back (A:=[_,_,_,_,_,_]) (by rw[Nm];exact K))
    ·rw[Cz];by_cases e2:v=u
     ·subst e2;rw[Nq K] at hu;simp only[Nc] at hu;rw[<- hu,if_pos Y,hq]
     ·rw[Ns e2] at hu;rw[if_neg aa,NN];exact h1 u r hu
   ·have h5:k=2*N.arcs.length:=by omega
    subst h5
    have D:∀ w,dN w0 [] w ([.own (ax go 0 (n+1) (n+1)) 3 1 (n+1) (aj (List.replicate (n+1) (-1))),.own (ax g 0 (n+1) (n+1)) 23 1 (n+1) (rows.map cT),.own (.slice A1 (2*N.arcs.length) I) 2 1 (2*N.arcs.length) (aj rm),blk p 33 (bU N A c),.seg b o (arcs N.arcs),.seg bf of (aj f)]++rows.map (bd 3))->
     ∀ v:Nat,∃ gv:Nat,∀ row,rows[v]?=some row->row.l.length<=row.c/\(aj row.l≠[]->row.A=aL gv 0):=by
     intro w hw v
     cases Y:rows[v]? with
     |none=>exact⟨0,λ row h=>by cases h⟩
     |some row=>
      obtain⟨_,h2,h3,h4⟩:=aH (X:=⟨w0,[],⟨0,[]⟩⟩) (v+6) (show _=some (bd 3 row) by show (rows.map (bd 3))[v]?=_;rw[Nk,Y];rfl) w hw;obtain⟨gv,hj⟩:=bg h3 h4;exact⟨gv,λ l1 h=>by simp only[Nc] at h;subst h;exact⟨h2,hj⟩⟩
    refine aR D λ B=>?_;obtain⟨gv,hj⟩:∃ gv:Nat->Nat,∀ (v:Nat) (row:fg),rows[v]?=some row->row.l.length<=row.c/\(aj row.l≠[]->row.A=aL (gv v) 0):=⟨λ v=>Classical.choose (B v),λ v=>Pg (B v)⟩;refine aR (aH 2 rfl) λ ⟨_,_,hG,_⟩=>?_
    clear B D
    have h6:=Z.src;obtain⟨s0,k2⟩:∃ s:Nat,N.src=s:=⟨N.src.toNat,aa⟩;refine bu ?_;refine dD λ L=>?_;refine dD λ M=>?_;refine dQ ?_
    (first|refine ae [] (ad 0 rfl) rfl ?_|refine ae [] (ad 1 rfl) rfl ?_|refine ae [] (ad 2 rfl) rfl ?_|refine ae [] (ad 3 rfl) rfl ?_|refine ae [] (ad 4 rfl) rfl ?_|refine ae [] (ad 5 rfl) rfl ?_|refine ae [] (ad 6 rfl) rfl ?_|refine ae [] (ad 7 rfl) rfl ?_)
    refine aA 80 (v':=af (s0:Int)) rfl (Na (Value.int .i64) k2)<|ip ?_;refine aW 2 rfl rfl rfl rfl (fh rfl eK) [] rfl<|ah<|bX 3 1<|aI ?_;refine bj (v:=.slice none 0 0) 1 ?_;refine az ?_
    (first|refine ae [] (ad 0 rfl) rfl ?_|refine ae [] (ad 1 rfl) rfl ?_|refine ae [] (ad 2 rfl) rfl ?_|refine ae [] (ad 3 rfl) rfl ?_|refine ae [] (ad 4 rfl) rfl ?_|refine ae [] (ad 5 rfl) rfl ?_|refine ae [] (ad 6 rfl) rfl ?_|refine ae [] (ad 7 rfl) rfl ?_)
    refine aA 84 (v':=af (s0:Int)) rfl (Na (Value.int .i64) k2)<|dp λ g3=>?_;refine bx (n:=0) (m:=1) (off:=0) (news:=aj [(s0:Int)]) 1 0 rfl rfl rfl rfl rfl rfl ab rfl rfl (aS g3 _ _ (0,0)) aK rfl rfl aa aa (λ _ _=>rfl) λ A3 c3=>dE 2 ?_;refine dv ?_;refine iL ?_;refine bX 3 1<|aq<|?_;have s3:∀ (v:Nat) (row:fg),rows[v]?=some row->row.l=tr N (2*N.arcs.length) v:=λ v row h=>h1 v row h;show J _ _ _ _ ([_,_,_,_,_,_,_,_,_,_,_]++rows.map (bd 3))
    refine cA (σ:=LS) (λ s=>[(19,af s.k),(18,.func (.func 132) #[] #[ap M 0,ap L 0]),(17,ap M 0),(16,ap L 0),(11,ax go 0 (n+1) (n+1)),(10,ax g 0 (n+1) (n+1)),(8,.slice A1 (2*N.arcs.length) I),(3,ap p 0),(2,af least)])
     (λ s=>[blk M 23 [.slice s.Ax s.fr.length s.cx],blk L 23 [.slice s.An s.nw.length s.cn],.own (.slice s.Ax s.fr.length s.cx) 3 1 s.fr.length (aj (s.fr.map λ (i:Nat)=>(i:Int))),.own (.slice s.An s.nw.length s.cn) 3 1 s.nw.length (aj s.nw),
      .own (ax go 0 (n+1) (n+1)) 3 1 (n+1) (aj s.lv),.own (ax g 0 (n+1) (n+1)) 23 1 (n+1) (rows.map cT),.own (.slice A1 (2*N.arcs.length) I) 2 1 (2*N.arcs.length) (aj rm),blk p 33 (bU N A c),.seg b o (arcs N.arcs),.seg bf of (aj f)]++rows.map (bd 3))
     (λ s=>LH N rm least s.k s.fr s.lv) (λ s=>2*s.lv.count (-1)+s.fr.length)
     ⟨1,[s0],A3,c3,[],none,0,(List.replicate (n+1) (-1)).set s0 0⟩ a7 (ay.re [3,4,2,0,5,6,7,8,9,10] rfl ab) ?_ ?_
    ·have:=LH.init (rm:=rm) (least:=least) Z;rw[k2,hn,NA,NA] at this;exact this
    rintro⟨k,fr,Ax,cx,nw,An,cn,lv⟩ hI;simp only at hI ⊢;have e1:=hI.cnt;have n2:=hI.k1;rw[hn,NA] at e1;refine aI ?_;show JL _ _ _ _ _ ([_,_]++([_,_,_,_,_,_,_,_]++rows.map (bd 3)));refine bK (fst:=[]) (vs:=[]) (cap:=[ap M 0,ap L 0]) [] (JX M L Ax An fr.length cx nw.length cn) rfl rfl rfl rfl aX ay.refl an aK<|kD ?_;refine ah<|ak rfl (λ ho=>ag ?_) (λ ho=>aO ?_)
    ·have O:fr≠[]:=by rintro rfl;simp at ho
     refine bS (ay.shrink (m:=0) 3 rfl (Nl _)) ?_;show J _ _ _ _ ([_,_,_,_,_,_,_,_,_,_]++rows.map (bd 3));refine aR (aH 2 rfl) λ ⟨_,_,q2,_⟩=>?_;obtain⟨gx,rfl⟩:=q2 (NM.2 O);refine am (aq ?_);refine aI ?_
     (first|refine ae [] (ad 0 rfl) rfl ?_|refine ae [] (ad 1 rfl) rfl ?_|refine ae [] (ad 2 rfl) rfl ?_|refine ae [] (ad 3 rfl) rfl ?_|refine ae [] (ad 4 rfl) rfl ?_|refine ae [] (ad 5 rfl) rfl ?_|refine ae [] (ad 6 rfl) rfl ?_|refine ae [] (ad 7 rfl) rfl ?_)
     refine iZ ?_
     refine cA (σ:=Nat×LN_×OA_×Nat×LI_) (λ s=>[(94,af s.1),(93,af fr.length),(92,ax gx 0 fr.length cx),(19,af k),(18,.func (.func 132) #[] #[ap M 0,ap L 0]),(17,ap M 0),(16,ap L 0),(11,ax go 0 (n+1) (n+1)),(10,ax g 0 (n+1) (n+1)),(8,.slice A1 (2*N.arcs.length) I),(3,ap p 0),(2,af least)])
      (λ s=>[blk M 23 [.slice s.2.2.1 s.2.1.length s.2.2.2.1],blk L 23 [ax gx 0 fr.length cx],.own (ax gx 0 fr.length cx) 3 1 fr.length (aj (fr.map λ (i:Nat)=>(i:Int))),.own (.slice s.2.2.1 s.2.1.length s.2.2.2.1) 3 1 s.2.1.length (aj (s.2.1.map λ (i:Nat)=>(i:Int))),
       .own (ax go 0 (n+1) (n+1)) 3 1 (n+1) (aj s.2.2.2.2),.own (ax g 0 (n+1) (n+1)) 23 1 (n+1) (rows.map cT),.own (.slice A1 (2*N.arcs.length) I) 2 1 (2*N.arcs.length) (aj rm),blk p 33 (bU N A c),.seg b o (arcs N.arcs),.seg bf of (aj f)]++rows.map (bd 3))
      (λ s=>s.1<=fr.length/\LV N rm least k fr s.1 0 s.2.1 s.2.2.2.2/\2*s.2.2.2.2.count (-1)+2*s.2.1.length=2*lv.count (-1)) (λ s=>fr.length-s.1)
      (0,[],An,cn,lv) a7 (ay.re [0,1,2,3,4,5,6,7,8,9] rfl ab) ⟨Nl _,hI.turn O,rfl⟩ ?_
     rintro⟨i,a,Ay,cy,lw⟩ ⟨p2,E,z⟩;simp only at p2 E z ⊢;have hx:=E.cnt;rw[hn,NA] at hx;have hb:=E.len;rw[hn,NA] at hb;refine ao ?_;refine am (ak rfl (λ hlt=>ag ?_) (λ H=>aO ?_))
     ·have hlt:i<fr.length:=by omega
      obtain⟨v,Y⟩:∃ v,fr[i]?=some v:=⟨fr[i],be hlt⟩;have k0:(fr.map λ (i:Nat)=>(i:Int))[i]?=some (v:Int):=by rw[Nk,Y];rfl
      have p8:=(E.old v).2 (Nb Y)
      have K:v<rows.length:=by
       refine Nat.lt_of_not_le λ h=>?_;rw[CT aa] at p8;omega
      obtain⟨row,d⟩:∃ row,rows[v]?=some row:=⟨rows[v],be K⟩;have q:=s3 v row d;have P:=oI N (2*N.arcs.length) v;rw[<- q] at P;refine am (aq ?_);refine qQ ?_;refine aF (aw (v:=af (v:Int)) 2 rfl rfl rfl (ep k0)) ?_;refine dQ ?_;refine ip ?_;refine aF (aw (v:=.slice row.A row.l.length row.c) 5 rfl rfl rfl (show (rows.map cT)[v]?=some (cT row) by rw[Nk,d];rfl)) ?_;refine iZ ?_
      refine cA (σ:=Nat×LN_×OA_×Nat×LI_) (λ s=>[(103,af s.1),(102,af row.l.length),(101,.slice row.A row.l.length row.c),(94,af i),(93,af fr.length),(92,ax gx 0 fr.length cx),(19,af k),(18,.func (.func 132) #[] #[ap M 0,ap L 0]),(17,ap M 0),(16,ap L 0),(11,ax go 0 (n+1) (n+1)),(10,ax g 0 (n+1) (n+1)),(8,.slice A1 (2*N.arcs.length) I),(3,ap p 0),(2,af least)])
       (λ s=>[blk M 23 [.slice s.2.2.1 s.2.1.length s.2.2.2.1],blk L 23 [ax gx 0 fr.length cx],.own (ax gx 0 fr.length cx) 3 1 fr.length (aj (fr.map λ (i:Nat)=>(i:Int))),.own (.slice s.2.2.1 s.2.1.length s.2.2.2.1) 3 1 s.2.1.length (aj (s.2.1.map λ (i:Nat)=>(i:Int))),
        .own (ax go 0 (n+1) (n+1)) 3 1 (n+1) (aj s.2.2.2.2),.own (ax g 0 (n+1) (n+1)) 23 1 (n+1) (rows.map cT),.own (.slice A1 (2*N.arcs.length) I) 2 1 (2*N.arcs.length) (aj rm),blk p 33 (bU N A c),.seg b o (arcs N.arcs),.seg bf of (aj f)]++rows.map (bd 3))
       (λ s=>s.1<=row.l.length/\LV N rm least k fr i s.1 s.2.1 s.2.2.2.2/\2*s.2.2.2.2.count (-1)+2*s.2.1.length=2*lv.count (-1)) (λ s=>row.l.length-s.1)
       (0,a,Ay,cy,lw) a7 ay.refl ⟨Nl _,E,z⟩ ?_
      clear hx hb E z
      rintro⟨j,a,Ay,cy,lw⟩ ⟨k4,E,z⟩;simp only at k4 E z ⊢;have hx:=E.cnt;rw[hn,NA] at hx;have hb:=E.len;rw[hn,NA] at hb;refine ao ?_;refine am (ak rfl (λ Q=>ag ?_) (λ H=>aO ?_))
      ·have Q:j<row.l.length:=by omega
       obtain⟨y,hy⟩:∃ y,row.l[j]?=some y:=⟨row.l[j],be Q⟩;have R:=Nb hy;rw[q] at R;obtain⟨r,hr,p4,rfl⟩:=wR.1 R;have hin:=jL Z hr;obtain⟨te,hS,k3⟩:=jM Z hr;obtain⟨t,ht⟩:∃ t,gR N r=t:=⟨_,rfl⟩;rw[ht] at te hS k3;have hL:eN N r=v:=by unfold eN;omega
       obtain⟨x,hB⟩:∃ x,rm[r]?=some x:=⟨rm[r]'aa,be aa⟩;have hxd:rm.getD r 0=x:=by rw[Nf,hB];rfl
       have S:t<lw.length:=aa;obtain⟨gr,rfl⟩:=hG aa
       have hz:aj row.l≠[]:=by
        intro h0;have:row.l.length=0:=by rw[<- bY,h0];rfl
        omega
       have q1:=(hj v row d).2 hz;have b2:∃ u,fr[i]?=some u/\(tr N (2*N.arcs.length) u)[j]?=some (r:Int):=⟨v,Y,q▸hy⟩;have C:IntKind.i64.wrap ((j:Int)+1)=((j+1:Nat):Int):=cp aa;refine am (aq ?_);refine aI ?_;refine aF (vC (b:=gv v) (off:=0) rfl (by rw[q1];rfl) rfl rfl rfl Q) ?_
       refine ae [] (dY (b:=gv v) (off:=0) (i:=j) (cs:=aj row.l) (v:=af (r:Int)) (c:=bd 3 row) (v+10) rfl rfl (show (rows.map (bd 3))[v]?=_ by rw[List.getElem?_map,d];rfl)
        (bC (e:=3) (sz:=1) (n:=row.l.length) (cap:=row.c) (λ _=>q1)) (ep hy)) rfl ?_
       refine fP ?_;refine bj (v:=bZ N A c) 7 ?_;refine az ?_;refine cj (jz N A c b o hA hd r hr) rfl ⟨bz 8 rfl,an⟩ ?_;refine aN ?_;refine bD 25 (v':=af (t:Int)) rfl (Na (Value.int .i64) te)<|aI ?_;refine ip ?_;refine aF (aw 6 rfl rfl rfl (bQ hB)) ?_;refine az ?_;have r2:∀ E2:Env,True:=λ _=>trivial;have U:rm.getD r 0<least\/dL lw (gR N r)≠-1->LV N rm least k fr i (j+1) a lw:=λ h=>E.pass b2 h;by_cases H:least<=x
       ·refine dt 119 rfl H<|bp [6] ?_;refine ae [6] (bn rfl aa) rfl<|ae [6] (aw 4 rfl rfl rfl (bI (qw S))) rfl<|cW [6] ?_;refine ak rfl (λ V=>?_) (λ hg=>ag ?_)
        ·have hc:=E.put (r:=r) ⟨v,Y,hL,q▸hy⟩ hr ⟨aa,aa⟩ aa (by rw[ht];exact V);have hcs:=jv lw t (k:Int) (by rw[qw S,V]) aa;rw[ht] at hc;refine aI ?_;refine ip ?_;refine aW 4 rfl rfl rfl rfl (fh rfl S) [] rfl<|ah<|aI ?_;refine bj (v:=.slice Ay a.length cy) 0 ?_;refine az ?_;refine dp λ g4=>?_;refine bx (n:=a.length) (m:=1) (off:=0) (news:=aj [(t:Int)]) 4 0 rfl rfl rfl rfl rfl rfl ab rfl rfl (aS g4 _ _ (0,0)) aK rfl rfl aa aa (λ _ _=>rfl) λ A4 c4=>?_;rw[show a.length+1=(a++[t]).length by simp,show aj (a.map λ (i:Nat)=>(i:Int))++aj [(t:Int)]=aj ((a++[t]).map λ (i:Nat)=>(i:Int)) by simp[aj]];refine dE 1 ?_;refine dv ?_;show ∃ s',_/\ay _ ([_,_,_,_,_,_,_,_,_,_,_]++rows.map (bd 3)) _/\_;exact⟨(j+1,a++[t],A4,c4,lw.set t (k:Int)),⟨Na some (Na (Value.int .i64) C),rfl,rfl,rfl,rfl,rfl,rfl,rfl,rfl,rfl,rfl,rfl,rfl,rfl,rfl,an⟩,ay.re [1,2,3,4,5,6,7,8,9,10] rfl ab,⟨by simp only;omega,hc,by simp only[Nj,NU];omega⟩,by simp only;omega⟩
        ·refine ao ?_;exact⟨(j+1,a,Ay,cy,lw),⟨Na some (Na (Value.int .i64) C),rfl,rfl,rfl,rfl,rfl,rfl,rfl,rfl,rfl,rfl,rfl,rfl,rfl,rfl,an⟩,ay.refl,⟨by simp only;omega,U (.inr (by rw[ht];exact hg)),z⟩,by simp only;omega⟩
       ·refine dc 119 rfl H<|cW [6] ?_;refine bo rfl (ag ?_);refine ao ?_;exact⟨(j+1,a,Ay,cy,lw),⟨Na some (Na (Value.int .i64) C),rfl,rfl,rfl,rfl,rfl,rfl,rfl,rfl,rfl,rfl,rfl,rfl,rfl,rfl,an⟩,ay.refl,⟨by simp only;omega,U (.inl aa),z⟩,by simp only;omega⟩
      ·have l2:=E.row (λ u hu=>by
        rw[Y] at hu;simp only[Nc] at hu;rw[<- hu,<- q];omega)
       refine ao ?_;exact⟨(i+1,a,Ay,cy,lw),⟨Na some (Na (Value.int .i64) (cp aa)),rfl,rfl,rfl,rfl,rfl,rfl,rfl,rfl,rfl,rfl,rfl,an⟩,ay.refl,⟨by simp only;omega,l2,z⟩,by simp only;omega⟩
     ·have hH:=E.final aa;refine ao ?_
      exact⟨⟨k+1,a,Ay,cy,fr.map λ (i:Nat)=>(i:Int),aL gx 0,cx,lw⟩,⟨Na some (Na (Value.int .i64) (cp aa)),rfl,rfl,rfl,rfl,rfl,rfl,rfl,rfl,an⟩,by
       simp only[Nm];exact ay.re [0,1,3,2,4,5,6,7,8,9] rfl ab,hH,by simp only;have:=NM.2 O;omega⟩
    ·have r1:fr=[]:=Ny.1 aa;subst r1;refine ao ?_;refine aM [4] ⟨_,rfl,.inl ⟨hW,aa,lv,go,?_,rfl,rfl⟩⟩;rw[<- hs];exact hI.lev Z
def KP(N:aV)(f:LI_)(least:Int)(v:Value)(H':Heap):Prop:=
 (aD N f/\1<=least/\∃ (lv:LI_) (A':OA_) (c':Nat),fw N (bc (N.arcs.zip f)) least lv/\v=.tuple #[.slice A' (di N (bc (N.arcs.zip f)) least lv (2*N.arcs.length)).length c',.int .i64 0]/\
  H'=[.own (.slice A' (di N (bc (N.arcs.zip f)) least lv (2*N.arcs.length)).length c') 3 1 (di N (bc (N.arcs.zip f)) least lv (2*N.arcs.length)).length (aj ((di N (bc (N.arcs.zip f)) least lv (2*N.arcs.length)).map λ (i:Nat)=>(i:Int)))])\/
 (¬ aD N f/\v=.tuple #[.slice none 0 0,.int .i64 (eP N f)]/\H'=[])\/(aD N f/\least<1/\v=.tuple #[.slice none 0 0,.int .i64 3]/\H'=[])
def My(N:aV)(f:LI_)(least:Int)(v:Value)(H':Heap):Prop:=
 (aD N f/\1<=least/\∃ (lv:LI_),fw N (bc (N.arcs.zip f)) least lv/\v=tg (dL lv N.snk.toNat,0)/\H'=[])\/
 (¬ aD N f/\v=tg (0,eP N f)/\H'=[])\/(aD N f/\least<1/\v=tg (0,3)/\H'=[])
theorem zf{N:aV}{rm:LI_}{least:Int}{lv:LI_}(k:Nat):di N rm least lv (k+1)=di N rm least lv k++(if least<=rm.getD k 0/\dL lv (eN N k)≠-1/\dL lv (gR N k)=dL lv (eN N k)+1 then [k] else []):=by
 unfold di;rw[OY,Ps]
 congr 1
 by_cases h:least<=rm.getD k 0/\dL lv (eN N k)≠-1/\dL lv (gR N k)=dL lv (eN N k)+1
 ·rw[if_pos h,OJ,if_pos (OR h)];rfl
 ·rw[if_neg h,OJ,if_neg (by simpa using h)];rfl
theorem lK(N:aV)(rm:LI_)(least:Int)(lv:LI_)(k:Nat):(di N rm least lv k).length<=k:=by
 unfold di;exact Ov (OD _ _) ai
theorem tu(N:aV)(hN:N.Fits)(hR:N.Right)(A:OA_)(c b o:Nat)(hA:N.arcs≠[]->A=some ⟨b,o,none⟩)(f:LI_)(F:OA_)(cf bf of:Nat)(hF:f≠[]->F=some ⟨bf,of,none⟩)(hf:∀ x∈f,b7 x)(hfl:f.length*8<=140737488351232)(least:Int):
 Fn 74 [bZ N A c,.slice F f.length cf,.int .i64 least] [] [.seg b o (arcs N.arcs),.seg bf of (aj f)] (My N f least):=by
 have e:=hR.nodes;have i:=hR.snk;obtain⟨n,hn⟩:∃ n:Nat,N.nodes=n:=⟨N.nodes.toNat,aa⟩;refine aT Tryz.func74 λ w0=>?_;refine bu ?_;refine cY (cs:=bU N A c) λ p=>?_;refine FW ?_;rintro v H' (⟨a,hle,lv,g,d,rfl,rfl⟩|⟨a,rfl,rfl⟩|⟨a,hle,rfl,rfl⟩)
 case inr.inl=>
  refine fD ?_;refine ak rfl (λ h=>?_) (λ h=>absurd (cZ.1 (No.1 h)) a);refine ao ?_;refine aM [] ⟨_,rfl,.inr (.inl ⟨a,rfl,rfl⟩)⟩
 case inr.inr=>
  refine fD ?_;refine ak rfl (λ h=>?_) (λ h=>absurd h ab);refine ao ?_;refine aM [] ⟨_,rfl,.inr (.inr ⟨a,hle,rfl,rfl⟩)⟩
 refine fD ?_;refine ak rfl (λ h=>absurd rfl h) (λ _=>ag ?_);have j:=d.len;refine aI ?_
 (first|refine ae [] (ad 0 rfl) rfl ?_|refine ae [] (ad 1 rfl) rfl ?_|refine ae [] (ad 2 rfl) rfl ?_|refine ae [] (ad 3 rfl) rfl ?_|refine ae [] (ad 4 rfl) rfl ?_|refine ae [] (ad 5 rfl) rfl ?_|refine ae [] (ad 6 rfl) rfl ?_|refine ae [] (ad 7 rfl) rfl ?_)
 refine aA 22 (v':=af ((N.snk.toNat:Nat):Int)) rfl (Na (Value.int .i64) aa)<|ip ?_;refine aF (aw 0 rfl rfl rfl (bI (qw aa))) ?_;refine aN ?_;refine aM [] ⟨_,rfl,.inl ⟨a,hle,lv,d,rfl,rfl⟩⟩
theorem yw(N:aV)(hN:N.Fits)(hR:N.Right)(A:OA_)(c b o:Nat)(hA:N.arcs≠[]->A=some ⟨b,o,none⟩)(f:LI_)(F:OA_)(cf bf of:Nat)(hF:f≠[]->F=some ⟨bf,of,none⟩)(hf:∀ x∈f,b7 x)(hfl:f.length*8<=140737488351232)(least:Int):
 Fn 224 [bZ N A c,.slice F f.length cf,.int .i64 least] [] [.seg b o (arcs N.arcs),.seg bf of (aj f)] (KP N f least):=by
 have P:=hR.nodes;have Q:=hR.snk;have E:=hR.len;obtain⟨n,hn⟩:∃ n:Nat,N.nodes=n:=⟨N.nodes.toNat,aa⟩;refine aT Tryz.func224 λ w0=>?_;refine bu ?_;refine cY (cs:=bU N A c) λ p=>?_;refine FW ?_;rintro v H' (⟨j,hle,lv,g,e,rfl,rfl⟩|⟨j,rfl,rfl⟩|⟨j,hle,rfl,rfl⟩)
 case inr.inl=>
  refine fD ?_;refine ak rfl (λ h=>?_) (λ h=>absurd (cZ.1 (No.1 h)) j);refine ao ?_;refine aM [] ⟨_,rfl,.inr (.inl ⟨j,rfl,rfl⟩)⟩
 case inr.inr=>
  refine fD ?_;refine ak rfl (λ h=>?_) (λ h=>absurd h ab);refine ao ?_;refine aM [] ⟨_,rfl,.inr (.inr ⟨j,hle,rfl,rfl⟩)⟩
 refine fD ?_;refine ak rfl (λ h=>absurd rfl h) (λ _=>ag ?_);have R:=e.len;refine GV ?_;rintro v H' (⟨_,A1,B,rfl,rfl⟩|⟨h,_,_⟩)
 case inr=>exact absurd j h
 refine ec ?_;unfold KP;obtain⟨rm,l⟩:∃ rm,rm=bc (N.arcs.zip f):=⟨_,rfl⟩;have S:rm.length=2*N.arcs.length:=by rw[l,d8,O0,j.len,Pn]
 rw[<- l] at e ⊢;refine ja ?_;refine bX 3 1<|aq<|?_
 refine bP (σ:=Nat×OA_×Nat) (λ s=>[(35,af s.1),(34,af ((2*N.arcs.length:Nat):Int)),(33,.slice A1 (2*N.arcs.length) B),(12,.slice s.2.1 (di N rm least lv s.1).length s.2.2),(8,ax g 0 (n+1) (n+1)),(3,ap p 0),(2,af least)])
  (λ s=>[.own (.slice s.2.1 (di N rm least lv s.1).length s.2.2) 3 1 (di N rm least lv s.1).length (aj ((di N rm least lv s.1).map λ (i:Nat)=>(i:Int))),.own (.slice A1 (2*N.arcs.length) B) 2 1 (2*N.arcs.length) (aj rm),.own (ax g 0 (n+1) (n+1)) 3 1 (n+1) (aj lv),blk p 33 (bU N A c),.seg b o (arcs N.arcs)])
  (λ s=>s.1<=2*N.arcs.length) (λ s=>2*N.arcs.length-s.1) (0,none,0) [0,1,2,3,4] a7 ab rfl (Nl _) ?_
 rintro⟨k,C,c2⟩ U;simp only at U ⊢;have V:=lK N rm least lv k;refine aR (aH 1 rfl) λ ⟨_,_,H,_⟩=>ao ?_;refine am (ak rfl (λ hlt=>ag ?_) (λ X=>aO ?_))
 ·have hlt:k<2*N.arcs.length:=by omega
  obtain⟨g1,rfl⟩:=H aa;obtain⟨M,q,r⟩:=jM hR hlt;obtain⟨O,w,y⟩:=ow hR hlt;obtain⟨x,z⟩:∃ x,rm[k]?=some x:=⟨rm[k]'aa,be aa⟩;have Y:rm.getD k 0=x:=by rw[Nf,z];rfl
  have a:=zf (N:=N) (rm:=rm) (least:=least) (lv:=lv) k;obtain⟨t,Z⟩:∃ t,gR N k=t:=⟨_,rfl⟩;obtain⟨u,hu⟩:∃ u,eN N k=u:=⟨_,rfl⟩;rw[Z] at M q r a;rw[hu] at O w y a;have hx:=e.rng u;have d:IntKind.i64.wrap ((k:Int)+1)=((k+1:Nat):Int):=cp aa;refine am (aq ?_);refine qQ ?_;refine aF (aw 1 rfl rfl rfl (bQ z)) ?_;refine fP ?_;refine qa ?_;refine cj (jz N A c b o hA E k hlt) rfl ⟨bz 4 rfl,an⟩ ?_;refine aN ?_;refine bD 15 (v':=af (u:Int)) rfl (Na (Value.int .i64) O)<|bD 16 (v':=af (t:Int)) rfl (Na (Value.int .i64) M)<|?_
  refine fN [(67,.bool (dR (least<=rm.getD k 0/\dL lv u≠-1/\dL lv t=dL lv u+1))),(35,af k),(34,af ((2*N.arcs.length:Nat):Int)),(33,ax g1 0 (2*N.arcs.length) B),(13,af k),(12,.slice C (di N rm least lv k).length c2),(8,ax g 0 (n+1) (n+1)),(3,ap p 0),(2,af least)]
   [.own (.slice C (di N rm least lv k).length c2) 3 1 (di N rm least lv k).length (aj ((di N rm least lv k).map λ (i:Nat)=>(i:Int))),.own (ax g1 0 (2*N.arcs.length) B) 2 1 (2*N.arcs.length) (aj rm),.own (ax g 0 (n+1) (n+1)) 3 1 (n+1) (aj lv),blk p 33 (bU N A c),.seg b o (arcs N.arcs)] ?_ ?_
  ·refine cq ?_;refine bM 22 (dT [0,1,2,3,4,5,6,7,8,9,10,11,12,13,14,15,16,17,18,19,20,21]) [2] aX ab rfl<|a9 ?_;by_cases I:least<=x
   ·refine dK 49 (v':=.bool true) rfl (Na Value.bool (aQ I))<|my [3] rfl<|aG [3] rfl (bn rfl aa) rfl<|aG [3] rfl (aw 0 rfl rfl rfl (bI (qw aa))) rfl<|my [3] rfl<|?_;by_cases D:dL lv u=-1
    ·refine dK 56 (v':=.bool false) rfl (Na Value.bool (aU (λ h=>h D)))<|hZ [10] rfl<|ah ⟨[0,1,2,3,4],⟨Na some (Na Value.bool (aU (λ h=>h.2.1 D)).symm),rfl,rfl,rfl,rfl,rfl,rfl,rfl,rfl,an⟩,ab,rfl⟩
    ·refine dK 56 (v':=.bool true) rfl (Na Value.bool (aQ D))<|Hk ?_;refine Hk ?_;refine my [10] rfl<|hZ [10] rfl<|?_;have hw:IntKind.i64.wrap (dL lv u+1)=dL lv u+1:=cp aa;refine ah ⟨[0,1,2,3,4],⟨Na some (Na Value.bool (ey ⟨λ h=>⟨aa,D,by rw[hw] at h;exact h⟩,λ h=>by rw[hw];exact h.2.2⟩)),rfl,rfl,rfl,rfl,rfl,rfl,rfl,rfl,an⟩,ab,rfl⟩
   ·refine dK 49 (v':=.bool false) rfl (Na Value.bool (aU I))<|hZ [3,10] rfl<|ah ⟨[0,1,2,3,4],⟨Na some (Na Value.bool (aU (λ h=>I aa)).symm),rfl,rfl,rfl,rfl,rfl,rfl,rfl,rfl,an⟩,ab,rfl⟩
  ·refine ak rfl (λ K=>?_) (λ L=>ag ?_)
   ·rw[if_pos K] at a;refine aE (fV [] rfl ?_);refine dp λ g4=>?_;refine bx (n:=(di N rm least lv k).length) (m:=1) (off:=0) (news:=aj [(k:Int)]) 1 0 rfl rfl rfl rfl rfl rfl ab rfl rfl (aS g4 _ _ (0,0)) aK rfl rfl aa aa (λ _ _=>rfl) λ A4 c4=>?_;rw[show (di N rm least lv k).length+1=(di N rm least lv (k+1)).length by rw[a];simp,show aj ((di N rm least lv k).map λ (i:Nat)=>(i:Int))++aj [(k:Int)]=aj ((di N rm least lv (k+1)).map λ (i:Nat)=>(i:Int)) by rw[a];simp[aj]];refine cR ?_;exact⟨(k+1,A4,c4),[1,2,3,4,5],⟨Na some (Na (Value.int .i64) d),rfl,rfl,rfl,rfl,rfl,rfl,an⟩,ab,rfl,by simp only;omega,by simp only;omega⟩
   ·rw[if_neg L,NN] at a;refine ao ?_;refine⟨(k+1,C,c2),[0,1,2,3,4],⟨Na some (Na (Value.int .i64) d),rfl,rfl,by simp only[a];rfl,rfl,rfl,rfl,an⟩,ab,by simp only[a];rfl,by simp only;omega,by simp only;omega⟩
 ·obtain rfl:k=2*N.arcs.length:=by omega
  refine ao ?_;exact aM [0] ⟨_,rfl,.inl ⟨j,hle,lv,C,c2,e,rfl,rfl⟩⟩
def w4(N:aV)(A:OA_)(c:Nat)(Ar:OA_)(cr:Nat)(least:Int)(gl n:Nat)(Aw:OA_)(nw cw:Nat):LV_:=
 [.int .i64 N.nodes,.int .i64 N.src,.int .i64 N.snk,.slice A N.arcs.length c,.slice Ar (2*N.arcs.length) cr,.int .i64 least,.slice (some ⟨gl,0,none⟩) (n+1) (n+1),.slice Aw nw cw]
def cJ(W:LN_):LV_:=aj (W.map λ (i:Nat)=>(i:Int))
theorem eH{W:LN_}{k r:Nat}(h:W[k]?=some r):(cJ W)[k]?=some (.int .i64 (r:Int)):=ep (by rw[Nk,h];rfl)
theorem f0(W:LN_):(cJ W).length=W.length:=by unfold cJ;rw[bY,Nm]
theorem mf{W:LN_}(h:W≠[]):cJ W≠[]:=λ a=>h (Ny.1 (by have:=f0 W;rw[a] at this;exact this.symm))
theorem oz(W:LN_)(r:Nat):cJ W++aj [(r:Int)]=cJ (W++[r]):=by simp[cJ,aj]
theorem BE(N:aV)(g:N.Right)(A:OA_)(c b o:Nat)(p:N.arcs≠[]->A=some ⟨b,o,none⟩)(m:Nat)(Ar:OA_)(cr:Nat)(least:Int)(gl n:Nat)(W:LN_)(q:∀ r∈W,r<2*N.arcs.length)(s:W.length<=1000)(Aw:OA_)(cw f:Nat)(j:W≠[]->Aw=some ⟨f,0,none⟩):
 Fn 228 [.pointer (some ⟨m,0,none⟩)] [] [.seg m 0 (w4 N A c Ar cr least gl n Aw W.length cw),.seg b o (arcs N.arcs),.seg f 0 (cJ W)] λ v H'=>v=.int .i64 (dZ N W:Nat)/\H'=[]:=by
 have t:=g.src;refine aT Tryz.func228 λ w0=>?_;refine c9 ?_;refine aF (aZ (i:=7) (v:=.slice Aw W.length cw) 0 rfl rfl rfl) ?_;refine aN ?_;refine ak rfl (λ u=>?_) (λ u=>ag ?_)
 ·obtain rfl:W=[]:=Ny.1 aa;refine aI ?_;refine aF (aZ (i:=1) (v:=af N.src) 0 rfl rfl rfl) ?_;refine aN ?_;refine aM [] ⟨_,rfl,Na (Value.int .i64) ?_,rfl⟩;show N.src=((N.src.toNat:Nat):Int);omega
 ·have d:0<W.length:=by omega
  obtain⟨r,k⟩:∃ r,W[W.length-1]?=some r:=⟨W[W.length-1]'aa,be aa⟩;obtain rfl:=j (by rintro rfl;simp at d);have e:=q r (Nb k);have a:W.getLast?=some r:=by rw[List.getLast?_eq_getElem?];exact k
  have l:=jM g e;refine cq ?_;refine bM 22 (dT [0,1,2,3,4,5,6,7,8,9,10,11,12,13,14,15]++[(16,false)]++dT [17,18,19,20,21]) [0,1,2] aX ab rfl<|a9 ?_;refine bh rfl (aZ (i:=0) (v:=bZ N A c) 0 rfl rfl rfl) ?_;refine a9 ?_;refine bh rfl (aZ (i:=7) (v:=ax f 0 W.length cw) 0 rfl rfl rfl) ?_;refine a9 ?_;refine bh rfl (aZ (i:=7) (v:=ax f 0 W.length cw) 0 rfl rfl rfl) ?_;refine a9 ?_;refine dK 30 (v':=af ((W.length-1:Nat):Int)) rfl (Na (Value.int .i64) ((cp aa).trans aa))<|oo ?_;refine bh rfl (fJ (i:=W.length-1) 2 rfl rfl rfl (NR _).symm (eH k)) ?_;refine cz ?_;refine dG (jz N A c b o p g.len r e) rfl ⟨bz 1 rfl,an⟩ ?_;refine j2 ?_;refine⟨rfl,b6 [0,1,2] ?_⟩;refine hZ [] rfl<|dv ?_;refine aM [] ⟨_,rfl,Na (Value.int .i64) ?_,rfl⟩;rw[l.1];unfold dZ;rw[a]
structure tG (rows:List fg) (gv:Nat->Nat) (pos:LN_) (vals:LV_):Prop where
 len:vals.length=rows.length
 at_:∀ (v:Nat) (row:fg) (q:Nat),rows[v]?=some row->pos[v]?=some q->∃ A' c',vals[v]?=some (.slice A' (row.l.length-q) c')/\row.l.length-q<=c'/\(q<row.l.length->A'=some ⟨gv v,q,none⟩)
theorem tG.bump{rows:List fg}{d:Nat->Nat}{pos:LN_}{vals:LV_}(h:tG rows d pos vals){v q b:Nat}{row:fg}(g:rows[v]?=some row)(hp:pos[v]?=some q)(k:q<row.l.length)(i:row.l.length-q<=b):
 tG rows d (pos.set v (q+1)) (vals.set v (.slice (fA (some ⟨d v,q,none⟩) b 1 1) (row.l.length-q-1) (b-1))):=by
 have f:v<vals.length:=by rw[h.len];exact (Ng.1 g).1
 refine⟨by rw[NO];exact h.len,λ u ro p hu a=>?_⟩;by_cases e:v=u
 ·subst e;rw[g] at hu;simp only[Nc] at hu;subst hu;rw[Nq (Ng.1 hp).1] at a;simp only[Nc] at a;subst a;refine⟨_,b-1,by rw[Nq f,Nat.sub_sub],aa,λ j=>?_⟩;have:=eS (A:=aL (d v) q) (c:=b) (l:=1) (n:=row.l.length-q) (sz:=1) aK i aa;rw[this]
 ·rw[Ns e] at a ⊢;exact h.at_ u ro p hu a
def dy(L:Nat->LN_)(n:Nat)(pos:LN_):Nat:=((List.range (n+1)).map λ v=>(L v).length-pos.getD v 0).sum
theorem la{f g:Nat->Nat}{v:Nat}:∀ {l:LN_},l.Nodup->v∈l->(∀ u∈l,u≠v->f u=g u)->f v+1=g v->(l.map f).sum+1=(l.map g).sum
 |[],_,h,_,_=>by cases h
 |u::l,c,a,he,d=>by
  obtain⟨b,i⟩:=NJ.1 c;refine tM ?_
  rcases Nn.1 a with rfl|a
  ·have:(l.map f)=l.map g:=Ou λ w hw=>he w (by simp[hw]) (λ e=>b (e▸hw));rw[this];omega
  ·have:=la i a (λ w hw=>he w (by simp[hw])) d;have:=he u ai (λ e=>b (e▸a));omega
theorem jr{L:Nat->LN_}{n:Nat}{pos:LN_}{v q:Nat}(hp:pos[v]?=some q)(b:v<=n)(c:q<(L v).length):dy L n (pos.set v (q+1))+1=dy L n pos:=by
 have a:=(Ng.1 hp).1;unfold dy;refine la (v:=v) OU (N8.2 aa) (λ u _ hu=>?_) ?_
 ·simp only[Nf];rw[Ns hu.symm]
 ·simp only[Nf];rw[Nq a,hp];simp only[NL];omega
structure NS where
 pos:LN_
 W:LN_
 vals:LV_
 Aw:OA_
 cw:Nat
def Mq(N:aV)(L:Nat->LN_)(least:Int)(rm:LI_)(rows:List fg)(gv:Nat->Nat)(A:OA_)(c:Nat)(Ar:OA_)(cr pw gl n:Nat)(pos W:LN_)(v:Value)(H':Heap):Prop:=
 ∃ (bb:Bool) (s:NS),v=.bool bb/\Nx N L least rm pos W bb s.pos s.W/\PI N L least rm s.pos s.W/\tG rows gv s.pos s.vals/\
   H'=[blk pw 303 (w4 N A c Ar cr least gl n s.Aw s.W.length s.cw),.own (.slice (some ⟨gl,0,none⟩) (n+1) (n+1)) 23 1 (n+1) s.vals,.own (.slice s.Aw s.W.length s.cw) 3 1 s.W.length (cJ s.W)]++rows.map (bd 3)
theorem Jk(N:aV)(hR:N.Right)(A:OA_)(c b o:Nat)(hA:N.arcs≠[]->A=some ⟨b,o,none⟩)(pw:Nat)(Ar:OA_)(cr gr:Nat)(least:Int)(gl n:Nat)(hn:N.nodes=n)(L:Nat->LN_)(lv:Nat->Int)(Y:gp N L lv)(hc:∀ v,(L v).length<=4000)
 (rm:LI_) (s3:rm.length=2*N.arcs.length) (k2:rm≠[]->Ar=some ⟨gr,0,none⟩) (rows:List fg) (hN:rows.length=n+1) (hL:∀ (v:Nat) (row:fg),rows[v]?=some row->row.l=(L v).map λ (i:Nat)=>(i:Int))
 (I:Nat->Nat) (hg:∀ (v:Nat) (row:fg),rows[v]?=some row->aj row.l≠[]->row.A=some ⟨I v,0,none⟩) (s:NS) (K:PI N L least rm s.pos s.W) (hV:tG rows I s.pos s.vals):
 Fn 226 [.pointer (some ⟨pw,0,none⟩)] (aC ([blk pw 303 (w4 N A c Ar cr least gl n s.Aw s.W.length s.cw),.own (.slice (some ⟨gl,0,none⟩) (n+1) (n+1)) 23 1 (n+1) s.vals,.own (.slice s.Aw s.W.length s.cw) 3 1 s.W.length (cJ s.W)]++rows.map (bd 3)))
  ([.seg b o (arcs N.arcs),.seg gr 0 (aj rm)]++([blk pw 303 (w4 N A c Ar cr least gl n s.Aw s.W.length s.cw),.own (.slice (some ⟨gl,0,none⟩) (n+1) (n+1)) 23 1 (n+1) s.vals,.own (.slice s.Aw s.W.length s.cw) 3 1 s.W.length (cJ s.W)]++rows.map (bd 3)))
  (Mq N L least rm rows I A c Ar cr pw gl n s.pos s.W):=by
 have q2:=hR.nodes;have p2:=hR.src;have k0:=hR.snk;have p8:=hR.diff;have k4:=hR.len
 have g:∀ (pos W:LN_),PI N L least rm pos W->W.length<=n/\dZ N W<=n/\(∀ r∈W,r<2*N.arcs.length):=by
  intro pos W K;have h1:=(q4 Y K.on K.mem).1;have h2:=Y.hi (dZ N W);have h3:=Y.hi N.src.toNat;have hs:∀ r∈W,r<2*N.arcs.length:=λ r Z=>(Y.ok _ _ (K.mem r Z)).1;refine⟨aa,?_,hs⟩
  rcases Ob W with rfl|⟨W0,r,rfl⟩
  ·show N.src.toNat<=n;omega
  ·rw[Oc,rf];have:=(jM hR (hs r ai)).2.2;omega
 generalize hM:aC _=M
 refine aT Tryz.func226 λ w0=>?_;refine sy ?_;refine ao ?_;refine Cl<|cq ?_;refine CS<|cq ?_;refine aR (aH 4 rfl) λ ⟨_,_,y,ha⟩=>?_;obtain⟨hd,y⟩:=bg y ha;obtain⟨m1,m2,m3⟩:=g _ _ K;refine aI ?_;refine cj (BE N hR A c b o hA pw Ar cr least gl n s.W m3 aa s.Aw s.cw hd (λ h=>y (mf h))) rfl ⟨ew 2 rfl,bz 0 rfl,ff 4 rfl y,an⟩ ?_;refine iZ ?_
 clear m1 m2 m3 y ha
 refine cA (σ:=NS) (λ t=>[(3,af (dZ N t.W:Nat)),(0,ap pw 0)])
  (λ t=>[.seg b o (arcs N.arcs),.seg gr 0 (aj rm),blk pw 303 (w4 N A c Ar cr least gl n t.Aw t.W.length t.cw),.own (ax gl 0 (n+1) (n+1)) 23 1 (n+1) t.vals,.own (.slice t.Aw t.W.length t.cw) 3 1 t.W.length (cJ t.W)]++rows.map (bd 3))
  (λ t=>PI N L least rm t.pos t.W/\tG rows I t.pos t.vals/\∀ bb p w,Nx N L least rm t.pos t.W bb p w->Nx N L least rm s.pos s.W bb p w)
  (λ t=>(n+2)*dy L n t.pos+(n+1-t.W.length)) s a7 ay.refl ⟨K,hV,λ _ _ _ h=>h⟩ ?_
 rintro⟨pos,W,vals,Aw,cw⟩ ⟨K,hV,hX⟩;simp only at K hV hX ⊢;obtain⟨m1,m2,m3⟩:=g _ _ K;refine aI ?_;refine bj (v:=af N.snk) 2 ?_;refine aN ?_;refine ak rfl (λ e2=>ag ?_) (λ heq=>aO ?_)
 ·have z:dZ N W≠N.snk.toNat:=λ e=>e2 aa;refine am (aq ?_);refine gK ?_
  refine cA (σ:=LN_×LV_) (λ t=>[(3,af (dZ N W:Nat)),(0,ap pw 0)])
   (λ t=>[.seg b o (arcs N.arcs),.seg gr 0 (aj rm),blk pw 303 (w4 N A c Ar cr least gl n Aw W.length cw),.own (ax gl 0 (n+1) (n+1)) 23 1 (n+1) t.2,.own (.slice Aw W.length cw) 3 1 W.length (cJ W)]++rows.map (bd 3))
   (λ t=>PI N L least rm t.1 W/\tG rows I t.1 t.2/\(∀ bb p w,Nx N L least rm t.1 W bb p w->Nx N L least rm s.pos s.W bb p w)/\dy L n t.1<=dy L n pos)
   (λ t=>dy L n t.1) (pos,vals) a7 ay.refl ⟨K,hV,hX,Nr _⟩ ?_
  rintro⟨a,j⟩ ⟨k,hV2,O,D⟩;simp only at k hV2 O D ⊢;obtain⟨v,d⟩:∃ v,dZ N W=v:=⟨_,rfl⟩;rw[d] at m2 z ⊢;obtain⟨row,B⟩:∃ row,rows[v]?=some row:=⟨rows[v]'aa,be aa⟩;obtain⟨q,U⟩:∃ q,a[v]?=some q:=⟨a[v]'(by have:=k.pl;omega),be (by have:=k.pl;omega)⟩;obtain⟨A',c',P,e1,hW⟩:=hV2.at_ v row q B U;have hy:=hL v row B;have hB:row.l.length=(L v).length:=by rw[hy,Nm]
  have b2:=hc v;refine aI ?_;refine bj (v:=ax gl 0 (n+1) (n+1)) 2 ?_;refine az ?_;refine ip ?_;refine aF (aw (v:=.slice A' (row.l.length-q) c') 3 rfl rfl rfl P) ?_;refine aN ?_;refine ak rfl (λ q1=>ag ?_) (λ n1=>aO ?_)
  ·have hb:q<row.l.length:=by omega
   obtain rfl:=hW hb;obtain⟨r,Z⟩:∃ r,(L v)[q]?=some r:=⟨(L v)[q]'aa,be aa⟩;have ho:row.l[q]?=some (r:Int):=by rw[hy,Nk,Z];rfl
   have hk:=(Y.ok _ _ (Nb Z)).1;obtain⟨x,V⟩:∃ x,rm[r]?=some x:=⟨rm[r]'aa,be aa⟩;have l2:rm.getD r 0=x:=by rw[Nf,V];rfl
   obtain rfl:=k2 (by intro h0;rw[h0] at V;simp at V)
   have X:aj row.l≠[]:=by
    intro h0;have:row.l.length=0:=by rw[<- bY,h0];rfl
    omega
   have c1:=hg v row B X;refine aq<|aI ?_;refine bj (v:=ax gl 0 (n+1) (n+1)) 2 ?_;refine az ?_;refine ip ?_;refine aF (aw (v:=ax (I v) q (row.l.length-q) c') 3 rfl rfl rfl P) ?_;refine aF (gq (m:=0) rfl aa) ?_
   refine ae [] (dY (b:=I v) (off:=q) (i:=0) (cs:=(aj row.l).drop q) (v:=af (r:Int)) (c:=bd 3 row) (v+5) rfl rfl (show (rows.map (bd 3))[v]?=_ by rw[List.getElem?_map,B];rfl)
    (by have:=dz (bC (e:=3) (sz:=1) (n:=row.l.length) (cap:=row.c) (λ _=>c1:aj row.l≠[]->row.A=aL (I v) 0)) q;rw[NR] at this;exact this)
    (by show ((aj row.l).drop q)[0]?=_;rw[Ol];exact ep ho)) rfl ?_
   refine ii ?_;refine bM 12 (dT [0,1,2,3,4,5,6,7,8,9,10,11]) [1,2] aX ab rfl<|a9 ?_;refine bh rfl (ad (v:=ax gr 0 (2*N.arcs.length) cr) 1 rfl) ?_;refine a9 ?_;refine bh rfl (bn rfl hk) ?_;refine bh rfl (fJ (i:=r) 0 rfl rfl rfl (NR _).symm (bQ V)) ?_;refine a9 ?_;refine bh rfl (ad (v:=af least) 1 rfl) ?_;refine lo ?_;refine ak rfl (λ r1=>?_) (λ l1=>ag ?_)
   ·have C:=k.go Y (by rw[d];exact U) (by rw[d];exact Z) (by omega:least≤rm.getD r 0);obtain⟨w1,w2,w3⟩:=g _ _ C;rw[List.length_append,List.length_singleton] at w1;refine aI ?_;refine bj (v:=.slice Aw W.length cw) 2 ?_;refine az ?_;refine dp fun g4=>?_;refine bx (n:=W.length) (m:=1) (off:=0) (news:=aj [(r:Int)]) 5 0 rfl rfl rfl rfl rfl rfl ab rfl rfl (aS g4 _ _ (0,0)) aK rfl rfl aa aa (fun _ _=>rfl) fun A4 c4=>?_;rw[show W.length+1=(W++[r]).length by simp,oz];refine az ?_;refine dE 3 ?_;refine ah ?_;show J _ _ _ _ ([_,_,_,_,_,_]++rows.map (bd 3));refine bS (ay.re [1,2,3,4,5] rfl ab)<|aO<|aR (aH 4 rfl) fun ⟨_,_,hAwx,Q⟩=>?_;obtain⟨gwx,hAwx⟩:=bg hAwx Q;refine aI ?_;refine cj (BE N hR A c b o hA pw _ cr least gl n (W++[r]) w3 (by rw[List.length_append,List.length_singleton];omega) _ _ gwx (fun h=>hAwx (mf h))) rfl ⟨ew 2 rfl,bz 0 rfl,ff 4 rfl hAwx,trivial⟩ ?_;refine aN ?_
    exact⟨⟨a,W++[r],j,A4,c4⟩,a7,ay.refl,⟨C,hV2,λ bb p w hx=>O _ _ _ (.go (by rw[d];exact z) (by rw[d];exact U) (by rw[d];exact Z) aa hx)⟩,by
     refine AX ?_;have:(n+2)*dy L n a<=(n+2)*dy L n pos:=O6 _ D;omega⟩
   ·have C:=k.skip Y (by rw[d];exact U) (by rw[d];exact Z) (by omega:rm.getD r 0<least);rw[d] at C;have R:=jr (L:=L) (n:=n) U m2 aa;refine Gc ?_;refine bh rfl (aw (v:=ax (I v) q (row.l.length-q) c') 1 rfl rfl rfl P) ?_;refine Ij ?_;exact⟨(a.set v (q+1),j.set v (.slice (fA (aL (I v) q) c' 1 1) (row.l.length-q-1) (c'-1))),a7,ay.refl,⟨C,hV2.bump B U hb e1,λ bb p w hx=>O _ _ _ (.skip (by rw[d];exact z) (by rw[d];exact U) (by rw[d];exact Z) aa (by rw[d];exact hx)),by simp only;omega⟩,by simp only;omega⟩
  ·have E:(L v).length≤q:=by omega
   refine aI ?_;refine bj (v:=.slice Aw W.length cw) 2 ?_;refine aN ?_;refine bD 5 (v':=af ((W.length:Int)-1)) rfl (Na (Value.int .i64) (cp aa))<|ao ?_;refine ak rfl (λ hz=>?_) (λ hz=>ag ?_)
   ·obtain rfl:W=[]:=Ny.1 aa;refine ao ?_;refine bS (ay.re [2,3,4] rfl ab) (bN ⟨_,rfl,false,⟨a,[],j,Aw,cw⟩,rfl,O _ _ _ (.stop aa (p:=q) ?_ ?_),k,hV2,rfl⟩)
    ·rw[show N.src.toNat=v from d];exact U
    ·rw[show N.src.toNat=v from d];exact E
   ·rcases Ob W with rfl|⟨W0,r,rfl⟩
    ·simp at hz
    rw[Oc] at*;obtain⟨qu,H,h4,hF⟩:=k.back_at;have C:=k.back Y (by rw[d];exact z) (by rw[d];exact U) (by rw[d];exact E) H;have hS:=k.drop;obtain⟨y1,y2,y3⟩:=g _ _ hS;have k3:(W0++[r]).length=W0.length+1:=ai;obtain⟨u,hu⟩:∃ u,dZ N W0=u:=⟨_,rfl⟩;rw[hu] at H h4 hF C y2;obtain⟨f,F⟩:∃ row,rows[u]?=some row:=⟨rows[u]'aa,be aa⟩;obtain⟨Au,cu,hf,hH,ht⟩:=hV2.at_ u f qu F H;have hj:f.l.length=(L u).length:=by rw[hL u f F,Nm]
    have S:qu<f.l.length:=by rw[hj];exact (Ng.1 h4).1
    obtain rfl:=ht S;have h6:=hc u;have R:=jr (L:=L) (n:=n) H y2 aa;refine aR (aH 4 rfl) λ ⟨_,h5,_,_⟩=>aI ?_;refine bj (v:=.slice Aw (W0++[r]).length cw) 2 ?_;refine az ?_;refine aA 85 (v':=af (W0.length:Int)) rfl (Na (Value.int .i64) aa)<|aF (jG (i:=W0.length) rfl rfl rfl rfl rfl aa) ?_;refine lI ?_;refine ah<|bS (ay.shrink (m:=W0.length) 4 rfl aa)<|?_;rw[NT,show (cJ (W0++[r])).take W0.length=cJ W0 by rw[<- oz,List.take_append_of_le_length (by rw[f0];omega),Oh (by rw[f0];omega)]];refine sy ?_;refine aR (aH 4 rfl) λ ⟨_,_,hAwx,Q⟩=>?_;obtain⟨gwx,hAwx⟩:=bg hAwx Q;refine IA ?_;refine sy ?_;refine bD 6 (v':=af (u:Int)) rfl (Na (Value.int .i64) (by rw[hu]))<|Gc ?_;refine bh rfl (aw (v:=ax (I u) qu (f.l.length-qu) cu) 1 rfl rfl rfl hf) ?_;refine Ij ?_;refine sy ?_;refine aR (aH 4 rfl) λ ⟨_,_,hAwx,Q⟩=>?_;obtain⟨gwx,hAwx⟩:=bg hAwx Q;refine IA ?_
    exact⟨⟨a.set u (qu+1),W0,j.set u (.slice (fA (aL (I u) qu) cu 1 1) (f.l.length-qu-1) (cu-1)),Aw,cw⟩,a7,ay.refl,⟨C,hV2.bump F H S hH,λ bb p w hx=>O _ _ _ (.back (by rw[d];exact z) (by rw[d];exact U) (by rw[d];exact E) (by rw[hu];exact H) (by rw[hu];exact hx))⟩,by
     simp only;have h1:(n+2)*dy L n a<=(n+2)*dy L n pos:=O6 _ D;have h2:(n+2)*dy L n a=(n+2)*dy L n (a.set u (qu+1))+(n+2):=by rw[<- R,Oy];omega
     omega⟩
 ·refine ao ?_;refine bS (ay.re [2,3,4] rfl ab) (bN ⟨_,rfl,true,⟨pos,W,vals,Aw,cw⟩,rfl,hX _ _ _ (.hit aa),K,hV,rfl⟩)
end Go.Proofs.YtmcnpaelaieniaaGreatDoor
