import Derived.Test.YtmcnpaelaieniaaGreatDoorQX126
/- A part of the proof. -/
set_option linter.unusedVariables false
set_option linter.unusedSimpArgs false
set_option maxHeartbeats 8000000
namespace Go.Proofs.YtmcnpaelaieniaaGreatDoor
open Go.RowKit
theorem B7(N:aR)(g:N.Fits)(i:N.Right)(A:OA_)(c b o:Nat)(j:N.arcs≠[]->A=some ⟨b,o,none⟩)(f:LI_)(F:OA_)(cf d of:Nat)(k:f≠[]->F=some ⟨d,of,none⟩)(l:∀ x∈f,b9 x)(e:f.length*8<=140737488351232)(a:¬ aD N f):
 Fn 157 [cd N A c,.slice F f.length cf] [] [.seg b o (arcs N.arcs),.seg d of (aj f)] λ v H'=>v=.tuple #[.slice none 0 0,.int .i64 (eQ N f)]/\H'=[]:=by
 refine aT Tryz.func157 λ w0=>?_;refine bA ?_;refine dh (cs:=bY N A c) λ p=>?_;refine ip ?_;refine dB (f8 N g i A c b o j f F cf d of k l e) rfl ⟨bx 1 rfl,bx 2 rfl,be⟩ ?_;rintro v H' ⟨⟨_,h⟩|⟨rfl,_⟩,rfl⟩
 case inl=>exact absurd h a
 refine fO ?_;refine ak rfl (λ _=>?_) (λ h=>absurd (de.1 (Nn.1 h)) a);exact jV
theorem BZ(N:aR)(q:N.Fits)(m:N.Right)(A:OA_)(c b o:Nat)(he:N.arcs=[])(F:OA_)(cf i of:Nat)(f:aD N []):
 Fn 157 [cd N A c,.slice F ([]:LI_).length cf] [] [.seg b o (arcs N.arcs),.seg i of (aj [])] (AS N []):=by
 have r:=m.nodes;have s:N.arcs.length=0:=by rw[he];rfl
 obtain⟨n,B⟩:∃ n:Nat,N.nodes=n:=⟨N.nodes.toNat,aa⟩;have g:dJ (N.arcs.zip []) N.snk=0:=by rw[he];rfl
 refine aT Tryz.func157 λ w0=>?_;refine bA ?_;refine dh (cs:=bY N A c) λ p=>?_;refine ip ?_;refine dB (f8 N q m A c b o (λ h=>absurd he h) [] F cf i of (λ h=>absurd rfl h) (λ _ h=>absurd h Nr) ai) rfl ⟨bx 1 rfl,bx 2 rfl,be⟩ ?_;rintro v H' ⟨⟨rfl,_⟩|⟨_,k⟩,rfl⟩
 case inr=>exact absurd f k
 refine dE ?_;rw[g];refine cS ?_;refine ak rfl (λ h=>absurd rfl h) (λ _=>ag ?_)
 refine iB (σ:=Nat×OA_×Nat×Nat) (λ t=>[(8,ap t.1 0),(2,ap p 0)])
  (λ t=>[blk t.1 256 (pz N A c t.2.1 0 t.2.2.1 0 (aJ t.2.2.2 0) (n+1) (n+1) 0),blk p 33 (bY N A c),.own (.slice t.2.1 0 t.2.2.1) 2 1 0 (aj [])]) ?_ ?_
 ·refine lz (Sf:=[blk p 33 (bY N A c)])<|jY [0,1,3,4,5,6] bC [0] ab rfl<|?_
  (repeat' (first|refine eI (gs:=[999]) rfl rfl ?_|refine aF [999] (v:=cd N A c) rfl (ad 0 rfl) rfl ?_|refine aF [999] (v:=af N.nodes) rfl (ad 0 rfl) rfl ?_))
  refine G2 ?_;refine av 2 [7] bC ab ⟨⟨_,rfl,?_⟩,⟨_,rfl,?_⟩,be⟩
  ·refine fh (fst:=[]) (cap:=[]) (gS F cf i of [] (λ h=>absurd rfl h) ai) rfl ⟨bx 2 rfl,be⟩ ?_;rintro u H' ⟨a,d,rfl,rfl⟩;refine ah ⟨⟨[1],by decide,rfl⟩,?_⟩;refine av 7 [] bC ab ⟨⟨_,rfl,?_⟩,be⟩;refine cY (n:=n+1) (c:=n+1) rfl rfl rfl rfl rfl rfl aa aa aa aE λ go=>ah ⟨⟨[2],by decide,rfl⟩,?_⟩;refine av 8 [] bC ab ⟨⟨_,rfl,?_⟩,be⟩;refine fv ?_;refine ah ⟨⟨[2],by decide,rfl⟩,?_⟩;refine av 9 [] bC ab ⟨⟨_,rfl,?_⟩,be⟩;refine dh (cs:=pz N A c a 0 d 0 (aJ go 0) (n+1) (n+1) 0) λ e=>?_;refine ah ⟨⟨[3],by decide,rfl⟩,?_⟩;refine av 10 [] bC ab ⟨⟨_,rfl,?_⟩,be⟩;refine aN ?_;refine⟨⟨[3],ab,rfl⟩,?_⟩;exact fb bC ⟨(e,a,d,go),a8,aw.picks [0,3,2] ab rfl⟩
  ·refine cY (n:=n+1) (c:=n+1) rfl rfl rfl rfl rfl rfl aa aa aa aE λ go=>ah ⟨⟨[1],by decide,rfl⟩,?_⟩;refine av 2 [] bC ab ⟨⟨_,rfl,?_⟩,be⟩;refine fh (fst:=[]) (cap:=[]) (gS F cf i of [] (λ h=>absurd rfl h) ai) rfl ⟨bx 3 rfl,be⟩ ?_;rintro u H' ⟨a,d,rfl,rfl⟩;refine ah ⟨⟨[2],by decide,rfl⟩,?_⟩;refine av 8 [] bC ab ⟨⟨_,rfl,?_⟩,be⟩;refine fv ?_;refine ah ⟨⟨[2],by decide,rfl⟩,?_⟩;refine av 9 [] bC ab ⟨⟨_,rfl,?_⟩,be⟩;refine dh (cs:=pz N A c a 0 d 0 (aJ go 0) (n+1) (n+1) 0) λ e=>?_;refine ah ⟨⟨[3],by decide,rfl⟩,?_⟩;refine av 10 [] bC ab ⟨⟨_,rfl,?_⟩,be⟩;refine aN ?_;refine⟨⟨[3],ab,rfl⟩,?_⟩;exact fb bC ⟨(e,a,d,go),a8,aw.picks [0,3,1] ab rfl⟩
 rintro⟨e,a,d,go⟩;refine aP (aH 2 rfl) λ ⟨_,w,_,_⟩=>aI ?_;refine bh (v:=.slice A N.arcs.length c) 1 ?_;refine ik ?_;refine bS (σ:=Unit) (λ _=>[(34,af 0),(33,af (N.arcs.length:Int)),(8,ap e 0),(2,ap p 0)]) (λ _=>[blk e 256 (pz N A c a 0 d 0 (aJ go 0) (n+1) (n+1) 0),.own (.slice a 0 d) 2 1 0 (aj [])]) (λ _=>True) (λ _=>0) () [0,2] a8 ab rfl be ?_;rintro⟨⟩-;refine ao ?_;refine am (ak rfl (λ l=>absurd l aa) (λ y=>aO ?_));refine jZ ?_;refine bS (σ:=Unit) (λ _=>[(11,.slice none 0 0),(8,ap e 0)]) (λ _=>[blk e 256 (pz N A c a 0 d 0 (aJ go 0) (n+1) (n+1) 0),.own (.slice a 0 d) 2 1 0 (aj [])]) (λ _=>True) (λ _=>0) () [0,1] a8 ab rfl be ?_;rintro⟨⟩-;refine aI ?_;refine bJ (fst:=[]) (cap:=[]) [] (zw N A c [] ai a d 0 (Nk _) (λ h=>absurd rfl h) 0 (aJ go 0) (n+1) (n+1) 0 (Np _) (λ j x _ z=>by simp at z) e) rfl rfl rfl rfl aW (K:=[.own (.slice a 0 d) 2 1 0 (aj [])]) (aw.picks [0,1] ab rfl) ⟨gC 0 rfl gW (.inl rfl),be⟩ aE ?_;rintro u H' ⟨rfl,rfl⟩;refine ef ?_;refine ak rfl (λ hp=>absurd hp ab) (λ _=>aO ?_);refine ao ?_;refine b6 235 3<|aL [0] ⟨_,rfl,[],none,0,?_,rfl,rfl⟩;rw[g];rfl
theorem Fn.mono0{f:FuncId}{args:LV_}{M:LN_}{H:Heap}{P:Value->Prop}{R:Value->Heap->Prop}(h:Fn f args M H λ v H'=>P v/\H'=[])(e sz:Nat)(b:∀ v,P v->R v [.own (.slice none 0 0) e sz 0 []]):Fn f args M H R:=λ w hw=>
 (h w hw).mono λ x w' ⟨v,H',he,c,hP,a⟩=>⟨v,_,he,(by subst a;exact c.addnil e sz),b v hP⟩
def Dl(N:aR)(f:LI_)(v:Value)(H':Heap):Prop:=∃ (its:List Fy) (A':OA_) (c':Nat),(aD N f->its.map fm=r5 N f)/\(¬ aD N f->its=[])/\v=.tuple #[.slice A' its.length c',.int .i64 (eQ N f)]/\H'=pB A' c' its
theorem Cb(N:aR)(g:N.Fits)(i:N.Right)(A:OA_)(c b o:Nat)(k:N.arcs≠[]->A=some ⟨b,o,none⟩)(f:LI_)(F:OA_)(cf d of:Nat)(l:f≠[]->F=some ⟨d,of,none⟩)(m:∀ x∈f,b9 x)(e:f.length*8<=140737488351232):
 Fn 157 [cd N A c,.slice F f.length cf] [] [.seg b o (arcs N.arcs),.seg d of (aj f)] (Dl N f):=by
 by_cases a:aD N f
 ·have n:eQ N f=0:=de.2 a;have key:∀ v H',AS N f v H'→Dl N f v H':=fun v H' ⟨its,p,q,r,s,t⟩=>⟨its,p,q,fun _=>r,fun h=>absurd a h,by rw[n];exact s,t⟩;by_cases he:N.arcs=[]
  ·have j:f=[]:=Nw.1 (by have:=a.len;rw[he] at this;exact this);subst j;exact (BZ N g i A c b o he F cf d of a).mono key
  ·exact (DE N g i A c b o k f F cf d of l m e a he).mono key
 ·refine (B7 N g i A c b o k f F cf d of l m e a).mono0 235 3 λ v u=>?_;subst u;exact⟨[],none,0,λ h=>absurd h a,λ _=>rfl,rfl,rfl⟩
theorem DN(m:cO)(hm:m.sta.OK)(p c d l:Nat)(b:m.At c d l):Fn 104 [.pointer (some ⟨p,0,none⟩)] [] (eC p m c d l) λ v H'=>v=td m.sta.valZ/\H'=[]:=by
 have e:=hm.flen;have o:m.f.length<=100000:=e;refine aT Tryz.func104 λ w0=>?_;refine cW ?_;refine dp λ g=>?_;refine Gz ?_;refine ak rfl (λ j=>?_) (λ j=>ag ?_)
 ·refine ao ?_;refine aL [] ⟨_,rfl,?_,rfl⟩;unfold c9.valZ;rw[if_pos (show m.sta.lack [false]≠0 from j)];rfl
 have a:m.sta.lack [false]=0:=Nn.1 j;have q:m.N.Right:=hm.net (gZ a);refine cA ?_;refine bK 13 (dS [0,1,2,3,4,5,6,7]++[(8,false)]++dS [9,10,11,12]) [1,2,3,4] aW ab rfl<|Ig ?_;refine cz ?_;refine dB (f8 m.N q.fits' q m.An m.cn c 0 b.n m.f m.Af m.cf d 0 b.f hm.fin aa) rfl ⟨⟨2,_,by simp[eC],rfl,bn _ _ _,cC⟩,⟨3,_,by simp[eC],rfl,bn _ _ _,cC⟩,be⟩ ?_;rintro v H' ⟨⟨rfl,k⟩|⟨rfl,k⟩,rfl⟩
 ·refine dE ?_;refine bZ [1,2,3,4]<|iA ?_;refine aL [] ⟨_,rfl,?_,rfl⟩;unfold c9.valZ;rw[if_neg (λ h=>h a),if_pos (show aD m.sta.N m.sta.f from k)];rfl
 ·refine dE ?_;refine bZ [1,2,3,4]<|iA ?_;refine aL [] ⟨_,rfl,?_,rfl⟩;unfold c9.valZ;rw[if_neg (λ h=>h a),if_neg (show ¬ aD m.sta.N m.sta.f from k)];rfl
def Kr(q:c9)(v:Value)(H':Heap):Prop:=∃ (its:List Fy) (A':OA_) (c':Nat),its.map fm=q.itemsZ.1/\v=.tuple #[.slice A' its.length c',.int .i64 q.itemsZ.2]/\H'=pB A' c' its
theorem DB(m:cO)(hm:m.sta.OK)(p j k o:Nat)(a:m.At j k o):Fn 130 [.pointer (some ⟨p,0,none⟩)] [] (eC p m j k o) (Kr m.sta):=by
 have l:=hm.flen;have q:m.f.length<=100000:=l;refine aT Tryz.func130 λ w0=>?_;refine cW ?_;refine dp λ g=>?_;refine Gz ?_;refine ak rfl (λ e=>?_) (λ e=>ag ?_)
 ·refine ao ?_;refine b6 235 3<|aL [0] ⟨_,rfl,[],none,0,?_,?_,rfl⟩
  ·unfold c9.itemsZ;rw[if_pos (show m.sta.lack [false]≠0 from e)];rfl
  ·unfold c9.itemsZ;rw[if_pos (show m.sta.lack [false]≠0 from e)];rfl
 have b:m.sta.lack [false]=0:=Nn.1 e;have r:m.N.Right:=hm.net (gZ b);refine cA ?_;refine fW 13 [0,1,2,3,4,5,6,7] 8 (dS [9,10,11,12]) aW ?_
 (repeat' (first|refine jr (gs:=[999]) rfl rfl ?_|refine cV [999] (v:=cd m.N m.An m.cn) rfl rfl (a7 (i:=0) 1 rfl rfl rfl) rfl ?_|refine cV [999] (v:=.slice m.Af m.f.length m.cf) rfl rfl (a7 (i:=4) 1 rfl rfl rfl) rfl ?_))
 refine im rfl<|dB (Cb m.N r.fits' r m.An m.cn j 0 a.n m.f m.Af m.cf k 0 a.f hm.fin aa) rfl ⟨⟨2,_,by simp[eC],rfl,bn _ _ _,cC⟩,⟨3,_,by simp[eC],rfl,bn _ _ _,cC⟩,be⟩ ?_;rintro v H' ⟨its,s,t,u,w,rfl,rfl⟩;refine⟨oB _ _ _,?_⟩;refine bZ []<|iA ?_;refine bQ (aw.sub (List.sublist_append_left _ _)) ?_
 have c:m.sta.itemsZ=(its.map fm,eQ m.N m.f):=by
  unfold c9.itemsZ;rw[if_neg (λ h=>h b)];by_cases d:aD m.N m.f
  ·rw[if_pos (show aD m.sta.N m.sta.f from d),u d,de.2 d];rfl
  ·rw[if_neg (show ¬ aD m.sta.N m.sta.f from d),w d];rfl
 refine bM ⟨_,rfl,its,s,t,by rw[c],by rw[c];rfl,rfl⟩
theorem Bb(V:LibV)(m:cO)(hm:m.sta.OK)(p j k l:Nat)(a:m.At j k l):Fn 106 [.pointer (some ⟨p,0,none⟩)] [] (eC p m j k l++V.heap) λ v H'=>v=.tuple #[du m.sta.repZ.1,.int .i64 m.sta.repZ.2]/\H'=[]:=by
 have o:=hm.flen;have t:m.f.length<=100000:=o;have b:m.s.length<=100000:=hm.slen;refine aT Tryz.func106 λ w0=>?_;refine cW ?_;refine dp λ g=>?_;refine cH (fst:=[]) (cap:=[]) (kC m p ([false,true]) ab (aJ g 0) 2 2 g 0 aE rfl) rfl ⟨⟨1,_,by simp[eC],rfl,bn _ _ _,cC⟩,en 0 rfl,be⟩ ?_;refine cS ?_;refine ak rfl (λ q=>?_) (λ q=>ag ?_)
 ·refine ao ?_;refine aL [] ⟨_,rfl,?_,rfl⟩;unfold c9.repZ;rw[if_pos (show m.sta.lack [false,true]≠0 from q)];rfl
 have c:m.sta.lack [false,true]=0:=Nn.1 q;have u:m.N.Right:=hm.net (gZ c);refine cA ?_;refine fW 17 [0,1,2,3,4,5,6,7,8,9,10,11] 12 (dS [13,14,15,16]) aW ?_
 (repeat' (first|refine jr (gs:=[999]) rfl rfl ?_|refine cV [999] (v:=cd m.N m.An m.cn) rfl rfl (a7 (i:=0) 1 rfl rfl rfl) rfl ?_|refine cV [999] (v:=.slice m.Af m.f.length m.cf) rfl rfl (a7 (i:=4) 1 rfl rfl rfl) rfl ?_|refine cV [999] (v:=.slice m.As m.s.length m.cs) rfl rfl (a7 (i:=5) 1 rfl rfl rfl) rfl ?_))
 refine im rfl<|cH (Dz V m.N u.fits' u m.An m.cn j 0 a.n m.f hm.fin aa m.Af m.cf k 0 a.f m.s hm.sin b m.As m.cs l 0 a.s) rfl ⟨⟨2,_,by simp[eC],rfl,bn _ _ _,cC⟩,⟨3,_,by simp[eC],rfl,bn _ _ _,cC⟩,⟨4,_,by simp[eC],rfl,bn _ _ _,cC⟩,⟨5,ai,rfl⟩,⟨6,ai,rfl⟩,⟨7,ai,rfl⟩,be⟩ ?_
 have r:AV m.N m.f m.s=.tuple #[du m.sta.repZ.1,af m.sta.repZ.2]:=by
  unfold AV c9.repZ;rw[if_neg (show ¬ m.sta.lack [false,true]≠0 from λ h=>h c)];by_cases d:aD m.N m.f
  ·rw[if_pos d,if_pos (show aD m.sta.N m.sta.f from d)];by_cases e:fQ m.N m.s
   ·rw[if_pos e,if_pos (show fQ m.sta.N m.sta.s from e)];rfl
   ·rw[if_neg e,if_neg (show ¬ fQ m.sta.N m.sta.s from e)];rfl
  ·rw[if_neg d,if_neg (show ¬ aD m.sta.N m.sta.f from d)];rfl
 rw[r];refine bZ []<|iA ?_;exact nE
theorem rV(V:LibV)(m:cO)(hm:m.sta.OK)(p b g j:Nat)(c:m.At b g j):Fn 107 [.pointer (some ⟨p,0,none⟩)] [] (eC p m b g j++V.heap) λ v H'=>v=.tuple #[du m.sta.printZ.1,.int .i64 m.sta.printZ.2]/\H'=[]:=by
 refine aT Tryz.func107 λ w0=>?_;refine cW ?_;refine cH (fst:=[]) (cap:=[]) (kC m p [] ab none 0 0 0 0 (λ h=>absurd rfl h) rfl) rfl ⟨⟨0,_,by simp[eC],rfl,bn _ _ _,cC⟩,⟨0,_,by simp[eC],rfl,gW,.inl rfl⟩,be⟩ ?_;refine cS ?_;refine ak rfl (λ d=>?_) (λ d=>ag ?_)
 ·refine ao ?_;refine aL [] ⟨_,rfl,?_,rfl⟩;unfold c9.printZ;rw[if_pos (show m.sta.lack []≠0 from d)];rfl
 have a:m.sta.lack []=0:=Nn.1 d;have e:m.N.Right:=hm.net (gZ a);refine aI ?_;refine aG (v:=cd m.N m.An m.cn) (a7 (i:=0) 0 rfl rfl rfl) ?_;refine cH (ID V m.N e.fits4 m.An m.cn b 0 c.n) rfl ⟨⟨1,_,by simp[eC],rfl,bn _ _ _,cC⟩,⟨4,ai,rfl⟩,⟨5,ai,rfl⟩,⟨6,ai,rfl⟩,be⟩ ?_
 have f:t8 m.N=.tuple #[du m.sta.printZ.1,af m.sta.printZ.2]:=by
  unfold t8 c9.printZ;rw[if_pos e.check,if_pos e.check,if_neg (λ h=>h a)];rfl
 rw[f];exact mG
theorem IN(p:Nat)(m:cO)(l:LI_)(hl:l.length<=100000)(B:OA_)(n j g i:Nat)(o:l≠[]->B=some ⟨g,i,none⟩)(q:n=l.length):
 Fn 66 [.pointer (some ⟨p,0,none⟩),.slice B n j] (ay (dq p m)) ([.seg g i (aj l)]++dq p m) λ v H'=>∃ (k:cO) (e:Int),v=.int .i64 e/\H'=dq p k/\j8 m.sta l (cL e nn) k.sta/\e9 e:=by
 subst q
 generalize hM:ay _=M
 refine aT Tryz.func66 λ w0=>?_;refine FU ?_;refine ak rfl (λ c=>?_) (λ c=>ag ?_)
 ·have c:m.sta.lack []≠0:=c;refine ao ?_;refine aL [1,2,3,4] ⟨_,rfl,m,m.sta.lack [],rfl,rfl,?_,f9 _ _⟩;unfold j8 cL;rw[if_pos c,if_pos c];exact gY
 have d:¬ m.sta.lack []≠0:=c;refine aI ?_;refine bh (v:=.slice m.An m.N.arcs.length m.cn) 1 ?_;refine aN ?_;refine ak rfl (λ a=>?_) (λ a=>ag ?_)
 ·have a:l.length≠m.sta.N.arcs.length:=λ h=>a (by show (l.length:Int)=(m.N.arcs.length:Int);exact M8 Nat.cast h);refine ao ?_;refine aL [1,2,3,4] ⟨_,rfl,m,6,rfl,rfl,?_,by unfold e9;decide⟩;unfold j8 cL;rw[if_neg d,if_pos a,if_pos ab];exact gY
 have a:¬ l.length≠m.sta.N.arcs.length:=λ h=>a (λ h'=>h (by have h':(l.length:Int)=(m.N.arcs.length:Int):=h';exact Int.ofNat.inj h'));refine aI ?_;refine fh (fst:=[]) (cap:=[]) (gS B j g i l o hl) rfl ⟨bx 0 rfl,be⟩ ?_;rintro v H' ⟨r,s,rfl,rfl⟩;refine lJ ?_;refine lJ ?_;refine dw ?_;refine aL [2,3,0,5] ⟨_,rfl,{ m with f:=l,Af:=r,cf:=s,b:=true },0,rfl,rfl,?_,by unfold e9;decide⟩;unfold j8 cL;rw[if_neg d,if_neg a,if_neg ab];exact gY
theorem xp(p:Nat)(m:cO)(l:LI_)(hl:l.length<=100000)(B:OA_)(n g b c:Nat)(j:l≠[]->B=some ⟨b,c,none⟩)(k:n=l.length):
 Fn 67 [.pointer (some ⟨p,0,none⟩),.slice B n g] (ay (dq p m)) ([.seg b c (aj l)]++dq p m) λ v H'=>∃ (i:cO) (e:Int),v=.int .i64 e/\H'=dq p i/\kB m.sta l (cL e nn) i.sta/\e9 e:=by
 subst k
 generalize hM:ay _=M
 refine aT Tryz.func67 λ w0=>?_;refine FU ?_;refine ak rfl (λ a=>?_) (λ a=>ag ?_)
 ·have a:m.sta.lack []≠0:=a;refine ao ?_;refine aL [1,2,3,4] ⟨_,rfl,m,m.sta.lack [],rfl,rfl,?_,f9 _ _⟩;unfold kB cL;rw[if_pos a,if_pos a];exact gY
 have f:¬ m.sta.lack []≠0:=a;refine aI ?_;refine fh (fst:=[]) (cap:=[]) (oy B g b c l j hl) rfl ⟨bx 0 rfl,be⟩ ?_;rintro v H' ⟨o,q,rfl,rfl⟩;refine lJ ?_;refine lJ ?_;refine dw ?_;refine aL [2,3,4,0] ⟨_,rfl,{ m with s:=l,As:=o,cs:=q,d:=true },0,rfl,rfl,?_,by unfold e9;decide⟩;unfold kB cL;rw[if_neg f,if_neg ab];exact gY
open Lib
section
variable {X:Cx} {E:Env} {H:Heap}
theorem Kh{o:Oper}{x:Operand}{n c:Nat}{ts:Array TypeId}(a:o.op=.call ⟨.builtin .unsafeSliceData,#[x],ts⟩)(b:val E x=some (.slice none n c)):i7 X o E H (.pointer none):=by
 intro ac w d e;have:=run_unsafeSliceData_nil (P:=Tryz.prog) (w:=w) ts o.type n c;simp[execOp,a,resolve,invoke,builtin,d.val b,this]
theorem Kj{o:Oper}{x y:Operand}{p:OA_}{pt it:Nat}(b:o.op=.call ⟨.builtin .unsafeString,#[x,y],#[pt,it]⟩)(c:val E x=some (.pointer p))(d:val E y=some (.int .i64 0)):i7 X o E H (du []):=by
 intro ac w a e;have:(Builtin.unsafeString_ #[pt,it] o.type #[.pointer p,af 0]).run Tryz.prog w=.ok (du []) w:=run_unsafeString_none (P:=Tryz.prog) (w:=w) pt it o.type p;simp[execOp,b,resolve,invoke,builtin,a.val c,a.val d,this]
end
theorem He(e b:Nat)(p:Value):Fn 55 [.pointer (some ⟨b,0,none⟩)] (ay (ni e b p none 0 [])) ([]++ni e b p none 0 []) λ v H'=>v=du []/\H'=[]:=by
 refine aT Tryz.func55 λ w0=>?_;refine iN ?_;refine G6 ?_;refine bc (v:=.slice none 0 0) rfl (ad 0 rfl) ?_;refine a6 ?_;refine bc (v:=.slice none 0 0) rfl (ad 0 rfl) ?_;refine jM ?_;refine aG (Kh rfl rfl) ?_;refine bZ [0]<|cz ?_;refine aG (Kj rfl rfl rfl) ?_;refine bZ [0]<|iA ?_;exact nE
theorem tN{l:LI_}:aj l=[]↔l=[]:=by unfold aj;exact List.map_eq_nil_iff
theorem Ez(N:aR){l:List It}(h:l≠[]):d8 N l≠[]:=by
 cases l with
 |nil=>exact absurd rfl h
 |cons x r=>
  unfold d8;rw[Ns,Oy];unfold m9;exact λ a=>zc _ _ (List.append_eq_nil_iff.1 a).1
theorem w6{l:LI_}{t:Nat}{e:Int}(h:l[t]?=some e):(l.take (t+1)).getLastD 0=e:=by
 rw[Nv,h,List.getLastD_eq_getLast?,N0];rfl
theorem Dx(V:LibV)(N:aR)(hN:N.Fits)(hR:N.Right)(A:OA_)(c b o:Nat)(hA:N.arcs≠[]->A=some ⟨b,o,none⟩)(its:List Fy)(C:∀ x∈its.map fm,l7 N x)(hl:its.length<=2001)(I:OA_)(ci:Nat):
 Fn 131 [cd N A c,.slice I its.length ci] (ay (pB I ci its)) (([.seg b o (arcs N.arcs)]++V.heap)++pB I ci its) λ v H'=>v=uN N (its.map fm)/\H'=pB I ci its:=by
 have hd:=hR.len
 generalize hM:ay _=M
 refine aT Tryz.func131 λ w0=>?_;refine bA ?_;refine dh (cs:=bY N A c) λ p=>?_;refine aN ?_;show J _ _ _ _ ([blk p 33 (bY N A c),.seg b o (arcs N.arcs),.tab 0 V.oM,.tab 3 V.oP,.tab 5 V.oE,.own (.slice I its.length ci) 235 3 its.length (qR its)]++its.map λ x=>bg 3 x.2.1);refine rX ?_;refine bJ (fst:=[]) (cap:=[]) [] (Jl N hN hR A c b o hA its C hl I ci) rfl rfl rfl rfl aW (K:=[blk p 33 (bY N A c),.seg b o (arcs N.arcs),.tab 0 V.oM,.tab 3 V.oP,.tab 5 V.oE]) (aw.mid [5] [0,1,2,3,4] rfl rfl ab) ⟨bx 1 rfl,be⟩ aE ?_;rintro v H' ⟨⟨F,n,cf,rfl⟩,rfl⟩;refine⟨oB I ci its,?_⟩;refine cK aw.swap<|aN ?_;by_cases D:qS N (its.map fm)=0
 case neg=>
  refine ao ?_;refine ak rfl (λ _=>?_) (λ h=>absurd D h);refine ao ?_;refine bQ (aw.re (A:=[_,_,_,_,_,_]) [0] rfl ab)<|bM ⟨_,rfl,?_,rfl⟩;unfold uN;rw[if_neg D];rfl
 rw[D];refine ao ?_;refine ak rfl (λ h=>absurd rfl h) (λ _=>ag ?_)
 have hlen:∀ j,j<=its.length->(d8 N ((its.take j).map fm)).length<=100000000:=λ j hj=>by
  have:=r7 hR (its:=(its.take j).map fm) (λ x Q=>by
   obtain⟨y,hy,rfl⟩:=NB.1 Q;exact C _ (OR (Od hy)))
  rw[Nj,ND] at this;omega
 refine bA ?_;refine dM λ k=>?_;refine aN ?_;refine b6 5 1<|jZ ?_
 refine cN (σ:=Nat×Value×OA_×Nat) (λ s=>[(26,af s.1),(25,af its.length),(24,.slice I its.length ci),(8,ap k 0),(2,ap p 0)])
  (λ s=>(ni 129 k s.2.1 s.2.2.1 s.2.2.2 (d8 N ((its.take s.1).map fm))++[.own (.slice I its.length ci) 235 3 its.length (qR its),blk p 33 (bY N A c),.seg b o (arcs N.arcs),.tab 0 V.oM,.tab 3 V.oP,.tab 5 V.oE])++its.map λ x=>bg 3 x.2.1)
  (λ s=>s.1<=its.length/\LO k s.2.1/\(s.1=0->s.2.2.1=none/\s.2.2.2=0)) (λ s=>its.length-s.1) (0,.pointer none,none,0) a8 (aw.re (A:=[_,_,_,_,_,_,_,_]) [1,0,2,3,4,5,6,7] rfl ab) ⟨Nk _,.inl rfl,λ _=>⟨rfl,rfl⟩⟩ ?_
 rintro⟨j,R,S,U⟩ ⟨hj,w,h1⟩;simp only at hj w h1 ⊢;refine aP (aH 2 rfl) λ ⟨_,_,hb,_⟩=>ao ?_;refine am (ak rfl (λ hlt=>ag ?_) (λ e2=>aO ?_))
 ·have hlt:j<its.length:=by omega
  obtain⟨x,Q⟩:∃ x,its[j]?=some x:=⟨its[j],an hlt⟩;obtain⟨gI,rfl⟩:=hb aa;have q:l7 N (fm x):=C _ (OR (M9 Q));have e1:x.2.1.l.length<=2000:=q.len;have hW:0<x.2.2/\x.2.2<=4611686018427387903:=q.amt;have hq:∀ e∈x.2.1.l,0<=e/\e<N.arcs.length:=q.rng;have B:x.2.1.l≠[]:=q.ne;have ho:x.1=112\/x.1=98\/x.1=99:=q.kind;have L:d8 N ((its.take (j+1)).map fm)=d8 N ((its.take j).map fm)++m9 N (fm x):=by rw[Nv,Q,NJ];exact zP N _ _
  have c1:=hlen j hj;have hrow:(its.map λ x=>bg 3 x.2.1)[j]?=some (bg 3 x.2.1):=by rw[Ni,Q];rfl
  obtain⟨O,hH⟩:=C2 hR q;refine bQ (aw.front (i:=j) (c:=bg 3 x.2.1) hrow)<|aP (aH 0 (show _=some (bg 3 x.2.1) from rfl)) λ ⟨_,_,hf,hn⟩=>?_;obtain⟨gr,h2⟩:=bo hf hn;have hc:x.2.1.A=some ⟨gr,0,none⟩:=h2 (by intro Y;have:=bU x.2.1.l;rw[Y] at this;exact B (Nw.1 (by simpa using this.symm)));refine am (au ?_);refine Bw ?_;refine aG (aA 3 rfl rfl rfl (qc Q)) ?_;refine dM λ h3=>?_;refine iG ?_;refine aI ?_;refine bh (v:=.int .i64 x.2.2) 0 ?_;refine dp λ g0=>?_;refine ji ?_;refine cS ?_;refine aI ?_;refine bh (v:=.slice x.2.1.A x.2.1.l.length x.2.1.c) 1 ?_;refine ik ?_
  refine cN (σ:=Nat×Int×OA_×Nat) (λ s=>[(36,.int .i64 s.1),(35,.int .i64 x.2.1.l.length),(34,.slice x.2.1.A x.2.1.l.length x.2.1.c),(12,.int .i64 s.2.1),(11,.slice s.2.2.1 (x.2.2::(x.2.1.l.take s.1).map (kn N)).length s.2.2.2),(10,.pointer (some ⟨h3,0,none⟩)),(26,.int .i64 j),(25,.int .i64 its.length),(24,.slice (some ⟨gI,0,none⟩) its.length ci),(8,.pointer (some ⟨k,0,none⟩)),(2,.pointer (some ⟨p,0,none⟩))])
   (λ s=>[.own (.slice s.2.2.1 (x.2.2::(x.2.1.l.take s.1).map (kn N)).length s.2.2.2) 2 1 (x.2.2::(x.2.1.l.take s.1).map (kn N)).length (aj (x.2.2::(x.2.1.l.take s.1).map (kn N))),blk h3 235 [.int .u8 x.1,.slice x.2.1.A x.2.1.l.length x.2.1.c,.int .i64 x.2.2],bg 3 x.2.1,blk k 129 [R,.slice S (d8 N ((its.take j).map fm)).length U],.own (.slice S (d8 N ((its.take j).map fm)).length U) 5 1 (d8 N ((its.take j).map fm)).length (byteCells (d8 N ((its.take j).map fm))),.own (.slice (some ⟨gI,0,none⟩) its.length ci) 235 3 its.length (qR its),blk p 33 (bY N A c),.seg b o (arcs N.arcs),.tab 0 V.oM,.tab 3 V.oP,.tab 5 V.oE]++(its.map λ x=>bg 3 x.2.1).eraseIdx j)
   (λ s=>s.1<=x.2.1.l.length/\(0<s.1->s.2.1=DO N ((x.2.1.l.take s.1).getLastD 0))) (λ s=>x.2.1.l.length-s.1) (0,0,some ⟨g0,0,none⟩,1) a8 aw.refl ⟨Nk _,λ h=>absurd h (Nat.lt_irrefl _)⟩ ?_
  rintro⟨t,last,An,cn⟩ ⟨ht,d⟩;simp only at ht d ⊢;have hs:(x.2.2::(x.2.1.l.take t).map (kn N)).length=t+1:=by rw[Nf,Nj,ND];omega
  refine ao ?_;refine am (ak rfl (λ r=>ag ?_) (λ hg=>aO ?_))
  ·have r:t<x.2.1.l.length:=by omega
   obtain⟨e,he⟩:∃ e,x.2.1.l[t]?=some e:=⟨x.2.1.l[t],an r⟩;obtain⟨i,a,rfl,ha,hil,hk,h4,_⟩:=J4 (hq e (M9 he));obtain rfl:=hA (by rintro Y;rw[Y] at hil;simp at hil);obtain⟨q0,q1,q2⟩:=gA ha;have hv:=w6 he;refine am (au ?_);refine aI ?_;refine aG (ij (b:=gr) rfl (by rw[<- hc];rfl) rfl rfl rfl r) ?_;refine aG (v:=af (i:Int)) (dW 2 rfl (show _=some (ap gr (0+t)) by rw[NO];rfl) rfl (bi (A:=x.2.1.A) h2) (bq he)) ?_;refine iH ?_;refine bK 17 (dS [0,1,2,3,4,5,6,9,10,11,12,13,14]++[(7,false),(8,false)]++dS [15,16]) [1,2,3,4,5,6,7,8,9,10] aW ab rfl<|GM ?_;refine bc (v:=af a.fr) rfl (fA 6 rfl rfl rfl (N3 _ _ _) q0) ?_;refine GM ?_;refine bc (v:=af a.to) rfl (fA 6 rfl rfl rfl (N3 _ _ _) q1) ?_;refine cz ?_;refine dp λ g2=>?_;refine bZ [2,3,4,5,6,7,8,9,10,11]<|cz ?_;refine bp (n:=(x.2.2::(x.2.1.l.take t).map (kn N)).length) (m:=1) (off:=0) (news:=aj [a.fr]) 1 0 rfl rfl rfl rfl rfl rfl ab rfl rfl (aQ g2 _ _ (0,0)) aE rfl rfl aa aa (λ _ _=>rfl) λ A3 c3=>bZ [2,3,4,5,6,7,8,9,10,11]<|a6 ?_;refine cP<|dw ?_;have hr:x.2.2::(x.2.1.l.take (t+1)).map (kn N)=(x.2.2::(x.2.1.l.take t).map (kn N))++[a.fr]:=by rw[Nv,he];simp[hk]
   refine⟨(t+1,a.to,A3,c3),⟨M8 (λ z=>some (af z)) (cv aa),rfl,rfl,rfl,?_,rfl,rfl,rfl,rfl,rfl,rfl,be⟩,?_,⟨by simp only;omega,λ _=>by simp only;rw[hv,h4]⟩,by simp only;omega⟩
   ·simp only[hr];rw[Ng];rfl
   ·simp only[hr];rw[Ng,show aj ((x.2.2::(x.2.1.l.take t).map (kn N))++[a.fr])=aj (x.2.2::(x.2.1.l.take t).map (kn N))++aj [a.fr] by simp[aj]];exact aw.sub (NU _ _)
  obtain rfl:t=x.2.1.l.length:=aa;have d:=d (NP.2 B);rw[NH] at*;have hF:(x.2.2::x.2.1.l.map (kn N)).length=x.2.1.l.length+1:=hs;refine aI ?_;refine bh (v:=.int .u8 x.1) 1 ?_;refine ik ?_;refine ao ?_;by_cases k1:x.1=112
  ·refine pj 60 rfl k1<|dy ?_;have P:fd N (fm x)=(x.2.2::x.2.1.l.map (kn N))++[last]:=by unfold fd fm;simp only;rw[if_pos (.inl k1),d]
   have eT:m9 N (fm x)=ir [112,97,116,104] (fd N (fm x)):=by unfold m9;rw[show pG (fm x).1=[112,97,116,104] by unfold pG fm;simp only;rw[if_pos k1]]
   refine aI ?_;refine dp λ g5=>?_;refine bp (n:=(x.2.2::x.2.1.l.map (kn N)).length) (m:=1) (off:=0) (news:=aj [last]) 1 0 rfl rfl rfl rfl rfl rfl ab rfl rfl (aQ g5 _ _ (0,0)) aE rfl rfl aa aa (λ _ _=>rfl) λ A5 c5=>?_;rw[show (x.2.2::x.2.1.l.map (kn N)).length+1=(fd N (fm x)).length by rw[P,Ng];rfl,show aj (x.2.2::x.2.1.l.map (kn N))++aj [last]=aj (fd N (fm x)) by rw[P];simp[aj]];refine fj (aH 1 rfl) λ ⟨_,_,u,f⟩=>?_;obtain⟨gn,g⟩:=bo u f
   refine bJ (fst:=[]) (cap:=[]) [] (iQ V k R w S U (d8 N ((its.take j).map fm)) [112,97,116,104] ab (fd N (fm x)) O aa aa A5 _ c5 gn 0 (fun h=>g (by rw[ne_eq,tN];exact h)) rfl) rfl rfl rfl rfl aW
    (K:=[.own (.slice A5 (fd N (fm x)).length c5) 2 1 (fd N (fm x)).length (aj (fd N (fm x))),bg 3 x.2.1,.own (ax gI 0 its.length ci) 235 3 its.length (qR its),blk p 33 (bY N A c),.seg b o (arcs N.arcs),.tab 0 V.oM,.tab 3 V.oP,.tab 5 V.oE]++(its.map λ x=>bg 3 x.2.1).eraseIdx j)
    (aw.re (A:=[_,_,_,_,_,_,_,_,_,_,_,_]) [4,5,1,3,6,7,8,9,10,11] rfl ab) ⟨gy 0 rfl g,⟨5,ai,rfl⟩,⟨6,ai,rfl⟩,⟨7,ai,rfl⟩,be⟩ aE ?_
   rintro v H' ⟨A6,c6,rfl⟩;refine dE ?_;rw[<- eT,<- L];refine dw ?_;refine⟨(j+1,ap k 0,A6,c6),⟨M8 (λ z=>some (af z)) (cv aa),rfl,rfl,rfl,rfl,be⟩,?_,⟨by simp only;omega,.inr rfl,λ h=>absurd h (by simp only;omega)⟩,by simp only;omega⟩;exact B4
  refine nj 60 rfl k1<|fD ?_;by_cases Z:x.1=98
  ·refine pj 67 rfl Z<|dy ?_;have P:fd N (fm x)=(x.2.2::x.2.1.l.map (kn N))++[last]:=by unfold fd fm;simp only;rw[if_pos (.inr Z),d]
   have eT:m9 N (fm x)=ir [98,97,99,107] (fd N (fm x)):=by unfold m9;rw[show pG (fm x).1=[98,97,99,107] by unfold pG fm;simp only;rw[if_neg k1,if_pos Z]]
   refine aI ?_;refine dp λ g5=>?_;refine bp (n:=(x.2.2::x.2.1.l.map (kn N)).length) (m:=1) (off:=0) (news:=aj [last]) 1 0 rfl rfl rfl rfl rfl rfl ab rfl rfl (aQ g5 _ _ (0,0)) aE rfl rfl aa aa (λ _ _=>rfl) λ A5 c5=>?_;rw[show (x.2.2::x.2.1.l.map (kn N)).length+1=(fd N (fm x)).length by rw[P,Ng];rfl,show aj (x.2.2::x.2.1.l.map (kn N))++aj [last]=aj (fd N (fm x)) by rw[P];simp[aj]];refine fj (aH 1 rfl) λ ⟨_,_,u,f⟩=>?_;obtain⟨gn,g⟩:=bo u f
   refine bJ (fst:=[]) (cap:=[]) [] (iQ V k R w S U (d8 N ((its.take j).map fm)) [98,97,99,107] ab (fd N (fm x)) O aa aa A5 _ c5 gn 0 (fun h=>g (by rw[ne_eq,tN];exact h)) rfl) rfl rfl rfl rfl aW
    (K:=[.own (.slice A5 (fd N (fm x)).length c5) 2 1 (fd N (fm x)).length (aj (fd N (fm x))),bg 3 x.2.1,.own (ax gI 0 its.length ci) 235 3 its.length (qR its),blk p 33 (bY N A c),.seg b o (arcs N.arcs),.tab 0 V.oM,.tab 3 V.oP,.tab 5 V.oE]++(its.map λ x=>bg 3 x.2.1).eraseIdx j)
    (aw.re (A:=[_,_,_,_,_,_,_,_,_,_,_,_]) [4,5,1,3,6,7,8,9,10,11] rfl ab) ⟨gy 0 rfl g,⟨5,ai,rfl⟩,⟨6,ai,rfl⟩,⟨7,ai,rfl⟩,be⟩ aE ?_
   rintro v H' ⟨A6,c6,rfl⟩;refine dE ?_;rw[<- eT,<- L];refine dw ?_;refine⟨(j+1,ap k 0,A6,c6),⟨M8 (λ z=>some (af z)) (cv aa),rfl,rfl,rfl,rfl,be⟩,?_,⟨by simp only;omega,.inr rfl,λ h=>absurd h (by simp only;omega)⟩,by simp only;omega⟩;exact B4
  refine nj 67 rfl Z<|bu rfl<|?_;have P:fd N (fm x)=x.2.2::x.2.1.l.map (kn N):=by unfold fd fm;simp only;rw[if_neg (not_or.2 ⟨k1,Z⟩),NL]
  have eT:m9 N (fm x)=ir [99,121,99,108,101] (fd N (fm x)):=by unfold m9;rw[show pG (fm x).1=[99,121,99,108,101] by unfold pG fm;simp only;rw[if_neg k1,if_neg Z]]
  rw[<- P];refine aI ?_;refine fj (aH 0 rfl) λ ⟨_,_,u,f⟩=>?_;obtain⟨gn,g⟩:=bo u f
  refine bJ (fst:=[]) (cap:=[]) [] (iQ V k R w S U (d8 N ((its.take j).map fm)) [99,121,99,108,101] ab (fd N (fm x)) O aa aa An _ cn gn 0 (fun h=>g (by rw[ne_eq,tN];exact h)) rfl) rfl rfl rfl rfl aW
   (K:=[.own (.slice An (fd N (fm x)).length cn) 2 1 (fd N (fm x)).length (aj (fd N (fm x))),bg 3 x.2.1,.own (ax gI 0 its.length ci) 235 3 its.length (qR its),blk p 33 (bY N A c),.seg b o (arcs N.arcs),.tab 0 V.oM,.tab 3 V.oP,.tab 5 V.oE]++(its.map λ x=>bg 3 x.2.1).eraseIdx j)
   (aw.re (A:=[_,_,_,_,_,_,_,_,_,_,_]) [3,4,0,2,5,6,7,8,9,10] rfl ab) ⟨gy 0 rfl g,⟨5,ai,rfl⟩,⟨6,ai,rfl⟩,⟨7,ai,rfl⟩,be⟩ aE ?_
  rintro v H' ⟨A6,c6,rfl⟩;refine dE ?_;rw[<- eT,<- L];refine dw ?_;refine⟨(j+1,ap k 0,A6,c6),⟨M8 (λ z=>some (af z)) (cv aa),rfl,rfl,rfl,rfl,be⟩,?_,⟨by simp only;omega,.inr rfl,λ h=>absurd h (by simp only;omega)⟩,by simp only;omega⟩;exact B4
 obtain rfl:j=its.length:=aa;rw[NH];refine aI ?_;by_cases Y:its=[]
 ·subst Y;obtain⟨rfl,rfl⟩:=h1 rfl;refine bJ (fst:=[]) (cap:=[]) [] (He 129 k R) rfl rfl rfl rfl aW (K:=[.own (.slice I 0 ci) 235 3 0 (qR [])]) (aw.picks [0,1,2] ab rfl) be aE<|jH ?_;refine ef ?_;refine bM ⟨_,rfl,?_,rfl⟩;unfold uN;rw[if_pos D,D];rfl
 ·refine bJ (fst:=[]) (cap:=[]) [] (zr 129 k R S U (d8 N (its.map fm)) (Ez N (by simpa using Y))) rfl rfl rfl rfl aW (K:=pB I ci its) (aw.re (A:=[_,_,_,_,_,_,_,_]) [0,1,2] rfl ab) be aE<|jH ?_;refine ef ?_;refine bM ⟨_,rfl,?_,rfl⟩;unfold uN;rw[if_pos D,D];rfl
open Lib
def bN(pp p:Nat)(m:cO)(t:bP):Heap:=[blk pp 80 [.pointer (some ⟨p,0,none⟩),du t]]++dq p m
def eO(pp p:Nat)(m:cO)(t:bP)(ba bf bs:Nat):Heap:=[.seg pp 0 [.pointer (some ⟨p,0,none⟩),du t]]++eC p m ba bf bs
def vy(pp p:Nat)(R:List bP->c9->bP->Prop)(v:Value)(H':Heap):Prop:=∃ (o:List bP) (m':cO) (t':bP) (A:OA_) (c:Nat),R o m'.sta t'/\v=.slice A o.length c/\H'=[Lc A c o]++bN pp p m' t'
def Il:bP:=[108,111,97,100]
theorem F9(V:LibV)(pp p:Nat)(m:cO)(t:bP)(d:t.length<=9999999):
 Fn 102 [.pointer (some ⟨pp,0,none⟩)] (ay (bN pp p m t)) (V.heap++bN pp p m t) (vy pp p (eJ m.sta t Il)):=by
 have a:=ua t
 generalize hM:ay _=M
 refine aT Tryz.func102 λ w0=>?_;refine iN ?_;refine fW 14 [0,1,2,3,4,5,6,7] 8 (dS [9,10,11,12,13]) aW ?_
 (repeat' (first|refine jr (gs:=[999]) rfl rfl ?_|refine cV [999] (v:=ap p 0) rfl rfl (ad 3 rfl) rfl ?_|refine cV [999] (v:=du t) rfl rfl (ad 3 rfl) rfl ?_))
 refine im rfl<|bJ (fst:=[]) (cap:=[]) [] (Jw V p m t d) rfl rfl rfl rfl aW (K:=V.heap++[blk pp 80 [ap p 0,du t]]) (aw.picks [4,5,6,7,0,1,2,3] ab rfl) ⟨⟨0,ai,rfl⟩,⟨1,ai,rfl⟩,⟨2,ai,rfl⟩,be⟩ aE<|?_;rintro v H' (⟨b,rfl,rfl⟩|⟨b,e,c2,rfl,rfl⟩)
 ·refine dE ?_;refine bZ []<|iA ?_;refine aI ?_;refine dz 7 ?_;refine dw ?_;refine ak rfl (λ _=>?_) (λ h=>absurd b h);obtain⟨_,f,i⟩:=v8 b;have j:=vj t;have k:=lp [108,105,110,101] ab (n:=((cR t).2.1:Int)) (by unfold b9;omega);have o:=w5 a;refine aI ?_;refine dp λ g=>?_;refine cH (fq V [108,105,110,101] ab [((cR t).2.1:Int)] (λ x c=>by rw[Nh.1 c];unfold b9;omega) ai (aJ g 0) 1 1 g 0 aE rfl) rfl ⟨en 0 rfl,⟨5,ai,rfl⟩,⟨6,ai,rfl⟩,⟨7,ai,rfl⟩,be⟩ ?_;refine aG (iv (l:=gG [108,105,110,101] [((cR t).2.1:Int)]) (m:=[32]) rfl rfl rfl eS) ?_;refine az ?_;refine dp λ g2=>?_;refine cH (fq V xc ab [(cR t).2.2] (λ x c=>by rw[Nh.1 c];exact a.inB) ai (aJ g2 0) 1 1 g2 0 aE rfl) rfl ⟨en 0 rfl,⟨6,ai,rfl⟩,⟨7,ai,rfl⟩,⟨8,ai,rfl⟩,be⟩ ?_;refine aG (iv (l:=gG [108,105,110,101] [((cR t).2.1:Int)]++[32]) (m:=gG xc [(cR t).2.2]) rfl rfl rfl eS) ?_;refine dp λ g3=>?_;refine ji ?_;refine aN ?_;refine aL [0,10,3,4,5,6] ⟨_,rfl,[gG [108,105,110,101] [((cR t).2.1:Int)]++[32]++gG xc [(cR t).2.2]],m,[],aJ g3 0,1,?_,rfl,rfl⟩;unfold eJ;rw[if_pos (show Il=[108,111,97,100] from rfl)];exact⟨rfl,.inl ⟨b,rfl,rfl⟩⟩
 ·refine dE ?_;refine bZ []<|iA ?_;refine aI ?_;refine dz 7 ?_;refine dw ?_;refine ak rfl (λ h=>absurd rfl h) (λ _=>ag ?_);refine aI ?_;refine dp λ g3=>?_;refine ji ?_;refine aN ?_;refine aL [0,8,1,2,3,4] ⟨_,rfl,nn,m.load (cR t).1 e c2,[],aJ g3 0,1,?_,rfl,rfl⟩;unfold eJ;rw[if_pos (show Il=[108,111,97,100] from rfl)];exact⟨rfl,.inr ⟨b,rfl,rfl⟩⟩
open Lib
theorem mH:∀ (l cur:LU_),∀ x∈cZ cur l,x≠[]
 |[],cur,x,a=>by
  unfold cZ at a;split at a
  ·exact absurd a Nr
  ·rename_i h;rw[Nh.1 a];exact h
 |b::l,cur,x,a=>by
  unfold cZ at a;split at a
  ·split at a
   ·exact mH l [] x a
   ·rename_i h
    rcases Nl.1 a with rfl|a
    ·exact h
    ·exact mH l [] x a
  ·exact mH l _ x a
structure Bf where
 A:OA_
 c:Nat
 l:List bP
def x4(r:Bf):Value:=.slice r.A r.l.length r.c
def qv(r:Bf):aU:=Lc r.A r.c r.l
def Ce:Bf:=⟨none,0,[]⟩
theorem aw.nilsT{X:Cx}{H:Heap}:∀ n:Nat,aw X H (H++(List.replicate n Ce).map qv)
 |0=>by simp;exact aw.refl
 |n+1=>λ w h=>by
  have a:=(aw.nilsT n w h).addnil 9 1;refine a.perm ?_;rw[Ol,Ns];exact List.perm_middle.symm
def sR(A:OA_)(c:Nat)(rows:List Bf):Heap:=[.own (.slice A rows.length c) 22 1 rows.length (rows.map x4)]++rows.map qv
theorem ER(V:LibV)(l:bP)(hl:l.length<4294967281):Fn 34 [du l] [] V.heap λ v H'=>∃ (A:OA_),v=.tuple #[.slice A (aK l).length (aK l).length,.bool (dU (l.length<=20000/\(aK l).length<=300))]/\H'=[.own (.slice A (aK l).length (aK l).length) 9 1 (aK l).length (cj (aK l))]:=by
 refine aT Tryz.func34 λ w0=>?_;refine cW ?_;refine dB (lZ V l hl) rfl ⟨⟨0,by simp[LibV.heap],rfl⟩,⟨1,by simp[LibV.heap],rfl⟩,⟨2,by simp[LibV.heap],rfl⟩,be⟩ ?_;rintro v H' ⟨A,n,b,rfl,rfl⟩;subst b;refine ef ?_;refine aI ?_;by_cases a:l.length<=20000
 ·refine d7 11 rfl (by rw[da];omega)<|bX [4] ?_;refine ah (hZ [0] ab rfl (bM ⟨_,rfl,A,?_,rfl⟩));exact M8 (λ z=>Value.tuple #[.slice A (aK l).length (aK l).length,.bool z]) (eB ⟨λ h=>⟨a,aa⟩,λ h=>by have:=h.2;omega⟩)
 ·refine dD 11 rfl (by rw[da];omega)<|bX [4] ?_;refine ah (hZ [0] ab rfl (bM ⟨_,rfl,A,?_,rfl⟩));exact M8 (λ z=>Value.tuple #[.slice A (aK l).length (aK l).length,.bool z]) (aZ (λ h=>a h.1)).symm
def LG(V:LibV)(Lk:bP->Prop):Prop:=∀ (pp p:Nat) (m:cO) (t line w:bP) (T:Ws) (cb bb ob:Nat),m.sta.OK->Lk line->line.length<=3000->t.length<=9999999->bI line=w::T->w.head?≠some 35->T.length+1<=cb->
 Fn 36 [.pointer (some ⟨pp,0,none⟩),du line,.slice (some ⟨bb,ob,none⟩) (T.length+1) cb] (ay (bN pp p m t)) ([.seg bb ob (cj (w::T))]++V.heap++bN pp p m t) (vy pp p (ql m.sta t line w T))
def KH(s:bP)(v:Value)(H':Heap):Prop:=∃ (rows:List Bf) (A:OA_) (c:Nat),(s.length<=20000->(aK s).length<=300->∃ q t,ka H7 [] (aK s) (rows.map (·.l)) q t)/\(¬ (s.length<=20000/\(aK s).length<=300)->rows=[])/\v=.slice A rows.length c/\H'=sR A c rows
theorem vq(V:LibV){Lk:bP->Prop}(Q:LG V Lk)(s:bP)(hs:s.length<4294967281)(hL:s.length<=20000->(aK s).length<=300->∀ l∈aK s,Lk l/\l.length<=3000):Fn 9 [du s] [] V.heap (KH s):=by
 refine aT Tryz.func9 λ w0=>?_;refine LM ?_;rintro v H' ⟨R,rfl,rfl⟩;refine aN ?_;by_cases d:s.length<=20000/\(aK s).length<=300
 case neg=>
  rw[aZ d];refine ao ?_;refine eP ?_;exact b6 22 1<|aL [0] ⟨_,rfl,[],none,0,λ h1 h2=>absurd ⟨h1,h2⟩ d,λ _=>rfl,rfl,rfl⟩
 rw[aV d];have D:=hL d.1 d.2;obtain⟨B,hB⟩:∃ B,B=3001:=⟨_,rfl⟩;obtain⟨ls,r⟩:∃ ls,ls=aK s:=⟨_,rfl⟩;have S:ls.length<=300:=by rw[r];exact d.2
 rw[<- r] at D ⊢;refine ao ?_;refine bu rfl (ag ?_);refine aI ?_;refine fh JN rfl be ?_;rintro v H' ⟨p,rfl,rfl⟩;refine fv ?_;refine dh (cs:=[ap p 0,du []]) λ pp=>?_;refine aN ?_;refine aP (aH 2 rfl) λ ⟨_,_,E,hA⟩=>aI ?_;refine cY (n:=ls.length) (c:=ls.length) rfl rfl rfl rfl rfl rfl aa aa aa aE λ go=>?_;rw[show made [Value.slice none 0 0] (ls.length*1)=(List.replicate ls.length Ce).map x4 by rw[db,NR,OH];rfl];refine pJ ?_;refine b6 3 1<|b6 2 1<|b6 37 3<|bQ (K:=[.own (ax go 0 ls.length ls.length) 22 1 ls.length ((List.replicate ls.length Ce).map x4),.own (.slice R ls.length ls.length) 9 1 ls.length (cj ls)]++(V.heap++bN pp p JM [])) (aw.picks [3,6,7,8,9,4,5,0,1,2] ab rfl)<|bQ (aw.nilsT ls.length)<|?_
 refine cN (σ:=Nat×List Bf×cO×bP) (λ q=>[(25,af q.1),(24,af ls.length),(23,.slice R ls.length ls.length),(6,ax go 0 ls.length ls.length),(5,ap pp 0)])
  (λ q=>([.own (ax go 0 ls.length ls.length) 22 1 ls.length (q.2.1.map x4),.own (.slice R ls.length ls.length) 9 1 ls.length (cj ls)]++(V.heap++bN pp p q.2.2.1 q.2.2.2))++q.2.1.map qv)
  (λ q=>q.1<=ls.length/\q.2.1.length=ls.length/\(∀ j,q.1<=j->j<ls.length->q.2.1[j]?=some Ce)/\ka H7 [] (ls.take q.1) ((q.2.1.take q.1).map (·.l)) q.2.2.1.sta q.2.2.2/\q.2.2.1.sta.OK/\q.2.2.2.length<=q.1*B) (λ q=>ls.length-q.1)
  (0,List.replicate ls.length Ce,JM,[]) a8 aw.refl ⟨Nk _,ai,λ j _ u=>by rw[Nt,if_pos u],⟨rfl,rfl,rfl⟩,xv,ai⟩ ?_
 rintro⟨k,rows,m,t⟩ ⟨hk,f,a,e,hm,ht⟩;simp only at hk f a e hm ht ⊢;refine ao ?_;refine am (ak rfl (λ hlt=>ag ?_) (λ hv=>aO ?_))
 ·have hlt:k<ls.length:=by omega
  obtain⟨x,U⟩:∃ x,ls[k]?=some x:=⟨ls[k],an hlt⟩;obtain⟨X,F⟩:=D x (M9 U);obtain⟨gl,rfl⟩:=E aa;have H:=a k (Np _) hlt;have I:=kJ x;have hr:(k+1)*B=k*B+B:=Nat.succ_mul k B;have L:t.length<=(k+1)*B:=aa;have hz:k*B<=300*B:=Ou B aa;have M:ls.take (k+1)=ls.take k++[x]:=by rw[Nv,U];rfl
  have N:k<rows.length:=aa;refine am (au ?_);refine vf ?_;refine aG (aA 1 rfl rfl rfl (eY U)) ?_;refine ew ?_;refine dB (zG x aa) rfl be ?_;rintro v H' ⟨Aw,n,hn,rfl,rfl⟩;subst hn;refine ef ?_;have Y:(rows.take (k+1)).map (·.l)=(rows.take k).map (·.l)++[[]]:=by rw[Nv,H,NJ];rfl
  have g:dr m.sta t x [] m.sta t->ka H7 [] (ls.take (k+1)) ((rows.take (k+1)).map (·.l)) m.sta t:=λ h=>by
   rw[M,Y];exact uy e h
  cases hw:bI x with
  |nil=>
   refine aI ?_;refine dD 35 rfl ab<|dY ?_;refine ah<|bu rfl (ag ?_);refine ao ?_;refine⟨(k+1,rows,m,t),⟨M8 (λ z=>some (af z)) (cv aa),rfl,rfl,rfl,rfl,be⟩,aw.sub (NU _ _),⟨by simp only;omega,f,λ j u=>a j (by simp only at u;omega),g ?_,hm,L⟩,by simp only;omega⟩;unfold dr;rw[hw];exact gY
  |cons w T=>
   have Z:=mH x [] w (by show w∈bI x;rw[hw];simp);have h3:=my x;rw[hw] at h3 I;simp only[Nf] at I
   obtain⟨b,w',rfl⟩:∃ b w',w=b::w':=by
    cases w with
    |nil=>exact absurd rfl Z
    |cons b w'=>exact⟨b,w',rfl⟩
   refine aP (aH 0 rfl) λ ⟨_,_,O,_⟩=>?_;obtain⟨gw,rfl⟩:=O ai;refine aI ?_;refine d7 35 rfl (by simp only[Nf];omega)<|dY ?_;refine ae [3] (v:=ap gw 0) (bG (m:=0) rfl ai) rfl<|ae [3] (v:=du (b::w')) (aA 0 rfl rfl rfl rfl) rfl<|ae [3] (v:=.int .u8 (b.toNat:Int)) (xe (i:=0) rfl rfl rfl rfl rfl) rfl<|dY ?_;by_cases y:b=35
   ·subst y;refine dD 41 rfl ab<|ah<|bu rfl (ag ?_);refine ao ?_;refine⟨(k+1,rows,m,t),⟨M8 (λ z=>some (af z)) (cv aa),rfl,rfl,rfl,rfl,be⟩,aw.sub (NU _ _),⟨by simp only;omega,f,λ j u=>a j (by simp only at u;omega),g ?_,hm,L⟩,by simp only;omega⟩;unfold dr;rw[hw];show (if _ then _ else _);rw[if_pos (by rfl)];exact gY
   have hb:(b.toNat:Int)≠35:=λ h=>y (UInt8.toNat_inj.1 (show b.toNat=35 by omega));refine d7 41 rfl hb<|ah<|dy ?_;have hh:(b::w').head?≠some 35:=λ h=>y (NM h);have P:(rows.map qv)[k]?=some (qv Ce):=by rw[Ni,H];rfl
   show J _ _ _ _ ([_,_,_,_,_,_,_,_,_,_,_]++rows.map qv);refine bQ (aw.front (i:=k) (c:=qv Ce) P)<|aI ?_
   refine bJ (fst:=[]) (cap:=[]) [] (Q pp p m t x (b::w') T (T.length+1) gw 0 hm X F aa hw hh (Np _)) rfl rfl rfl rfl aW
    (K:=[.own (ax gw 0 ((b::w')::T).length ((b::w')::T).length) 9 1 ((b::w')::T).length (cj ((b::w')::T)),.tab 0 V.oM,.tab 3 V.oP,.tab 5 V.oE,.own (ax go 0 ls.length ls.length) 22 1 ls.length (rows.map x4),.own (ax gl 0 ls.length ls.length) 9 1 ls.length (cj ls)]++(rows.map qv).eraseIdx k)
    (aw.re (A:=[_,_,_,_,_,_,_,_,_,_,_,_]) [7,8,9,10,11,1,4,5,6,2,3] rfl ab) ⟨gC 0 rfl b8 (.inr rfl),⟨1,ai,rfl⟩,⟨2,ai,rfl⟩,⟨3,ai,rfl⟩,be⟩ aE ?_
   rintro v H' ⟨o,m',t',A2,c2,hR,rfl,rfl⟩;refine dE ?_
   have C:dr m.sta t x o m'.sta t':=by
    unfold dr;rw[hw];simp only;rw[if_neg hh];exact hR
   have hq:=dr.txt C;refine aG (bG rfl hlt) ?_;refine aY 10 rfl rfl rfl rfl (fz rfl rfl rfl (by rw[Nj];omega)) [] rfl<|dw ?_;refine⟨(k+1,rows.set k ⟨A2,c2,o⟩,m',t'),⟨M8 (λ z=>some (af z)) (cv aa),rfl,rfl,rfl,rfl,be⟩,?_,⟨by simp only;omega,by simp only[NQ];exact f,λ j u hy=>?_,?_,dr.ok hm F C,(by show t'.length<=(k+1)*B;omega)⟩,by simp only;omega⟩
   ·simp only[O1];refine aw.trans (aw.re (A:=[_,_,_,_,_,_,_,_,_,_,_,_]) [0,10,11,7,8,9,1,2,3,4,5] rfl ab) (aw.back (A:=[_,_,_,_,_,_,_,_,_,_]) (c:=qv ⟨A2,c2,o⟩) (by rw[Nj];exact N))
   ·simp only at u ⊢;rw[Nq aa];exact a j aa hy
   ·simp only;rw[M,Nv,No N,List.take_set_of_le (Np _)];rw[NJ];exact uy e C
 obtain rfl:k=ls.length:=aa;rw[NH] at e;rw[Of aa] at e;refine ao ?_;show J _ _ _ _ ([_,_,_,_,_,_,_,_,_,_]++rows.map qv);refine bQ (aw.re [0] rfl ab) ?_;rw[r] at e;refine bM ⟨_,rfl,rows,aJ go 0,ls.length,λ _ _=>⟨_,_,e⟩,λ h=>absurd d h,by rw[f];rfl,?_⟩;unfold sR;rw[f]
open Lib
theorem E7(V:LibV)(pp p:Nat)(m:cO)(hm:m.sta.OK)(t:bP)(q r s:Nat)(g:m.At q r s):
 Fn 105 [.pointer (some ⟨pp,0,none⟩)] [] (eO pp p m t q r s++V.heap) (GE m.sta.itemsT):=by
 refine aT Tryz.func105 λ w0=>?_;refine cW ?_;refine aG (v:=ap p 0) (a7 (i:=0) 0 rfl rfl rfl) ?_;refine dB (DB m hm p q r s g) rfl ⟨⟨1,_,by simp[eO,eC],rfl,bn _ _ _,cC⟩,⟨2,_,by simp[eO,eC],rfl,bn _ _ _,cC⟩,⟨3,_,by simp[eO,eC],rfl,bn _ _ _,cC⟩,⟨4,_,by simp[eO,eC],rfl,bn _ _ _,cC⟩,be⟩ ?_;rintro v H' ⟨its,L,M,a,rfl,rfl⟩;refine⟨oB _ _ _,?_⟩;refine cK aw.swap<|cS ?_;refine ak rfl (λ j=>?_) (λ j=>ag ?_)
 ·refine aI ?_;refine dB (jy V m.sta.itemsZ.2 (m.sta.items_code).inB none 0 0) rfl ⟨⟨6,by simp[eO,eC],rfl⟩,⟨7,by simp[eO,eC],rfl⟩,⟨8,by simp[eO,eC],rfl⟩,trivial⟩ ?_;rintro v H' (⟨f,_⟩|⟨_,w,c2,rfl,rfl⟩)
  case inl=>exact absurd f j
  refine ef ?_;refine aL [0] ⟨_,rfl,?_⟩;unfold c9.itemsT;rw[if_pos j];exact⟨w,c2,rfl,rfl⟩
 have d:m.sta.itemsZ.2=0:=Nn.1 j
 have y:m.sta.lack [false]=0:=NE λ h=>by
  unfold c9.itemsZ at d;rw[if_pos h] at d;exact h d
 have F:=gZ y;have u:m.N.Right:=hm.net F;have k:m.sta.lack []=0:=by unfold c9.lack;rw[if_neg (by rw[F];decide),if_pos (λ c O=>absurd O Nr)]
 have z:m.sta.printZ=(jf m.N,0):=by unfold c9.printZ;rw[if_neg (λ h=>h k)];rfl
 have P:=sw u;obtain⟨l,e,o⟩:=m.sta.items_len hm;rw[<- a] at l e o;rw[Nj] at e;refine aI ?_;refine aG (v:=ap p 0) (a7 (i:=0) 1 rfl rfl rfl) ?_;refine cH (rV V m hm p q r s g) rfl ⟨⟨2,_,by simp[eO,eC],rfl,bn _ _ _,cC⟩,⟨3,_,by simp[eO,eC],rfl,bn _ _ _,cC⟩,⟨4,_,by simp[eO,eC],rfl,bn _ _ _,cC⟩,⟨5,_,by simp[eO,eC],rfl,bn _ _ _,cC⟩,⟨6,by simp[eO,eC],rfl⟩,⟨7,by simp[eO,eC],rfl⟩,⟨8,by simp[eO,eC],rfl⟩,be⟩ ?_;rw[z];refine ew ?_;have H:=uB V (jf m.N) aa;rw[sK u] at H;refine fh H rfl ⟨⟨6,by simp[eO,eC],rfl⟩,⟨7,by simp[eO,eC],rfl⟩,⟨8,by simp[eO,eC],rfl⟩,be⟩ ?_;rintro v H' ⟨B,c3,rfl,rfl⟩;refine az ?_;refine dM λ p7=>?_;refine dz 0 ?_;refine fj (aH 1 rfl) λ ⟨_,_,b,C⟩=>?_;obtain⟨g3,b⟩:=bo b C;refine fR ?_;refine bh (v:=cd m.N B c3) 0 ?_;refine az ?_
 refine bJ (fst:=[]) (cap:=[]) [] (Dx V m.N u.fits4 u B c3 g3 0 (fH b) its (fun x Q=>l x (by rw[← a] at*;exact Q)) e L M) rfl rfl rfl rfl aW
  (K:=[.own (.slice B m.N.arcs.length c3) 37 3 m.N.arcs.length (arcs m.N.arcs),.tab 0 V.oM,.tab 3 V.oP,.tab 5 V.oE]) ?_ ⟨gy 0 rfl b,⟨1,ai,rfl⟩,⟨2,ai,rfl⟩,⟨3,ai,rfl⟩,be⟩ aE ?_
 ·exact aw.mid (A:=[_,_,_,_,_,_,_,_,_,_,_]) [2] [1,8,9,10] rfl rfl ab
 refine jH ?_;refine⟨oB _ _ _,?_⟩;refine cK aw.swap ?_;unfold uN;refine aN ?_;have D:=yL m.N (its.map fm)
 have E:(if qS m.N (its.map fm)=0 then d8 m.N (its.map fm) else []).length<4294967281:=by
  split
  ·have:(d8 m.N (its.map fm)).length<=85000000:=o;omega
  ·simp
 refine bA ?_;refine lK ?_;refine dB (lZ V (if qS m.N (its.map fm)=0 then d8 m.N (its.map fm) else []) E) rfl ⟨⟨2,ai,rfl⟩,⟨3,ai,rfl⟩,⟨4,ai,rfl⟩,be⟩ ?_;rintro v H' ⟨I,n,R,rfl,rfl⟩;subst R;refine dE ?_;refine dB (jy V (qS m.N (its.map fm)) D.inB I _ _) rfl ⟨⟨3,ai,rfl⟩,⟨4,ai,rfl⟩,⟨5,ai,rfl⟩,be⟩ ?_
 have hit:m.sta.itemsT=cL (qS m.N (its.map fm)) (aK (d8 m.N (its.map fm))):=by
  unfold c9.itemsT;rw[if_neg j,<- a];rfl
 rw[hit];rintro v H' (⟨f,rfl,rfl⟩|⟨f,w,c2,rfl,rfl⟩)
 ·refine dE ?_;rw[if_pos f];refine aN ?_;refine aL [0] ⟨_,rfl,?_⟩;unfold cL;rw[if_neg (λ h=>h f)];exact⟨I,_,rfl,rfl⟩
 ·refine ef ?_;refine aL [0] ⟨_,rfl,?_⟩;unfold cL;rw[if_pos f];exact⟨w,c2,rfl,rfl⟩
open Lib
def z4:Nat->bP
 |0=>jK
 |1=>[112,104,97,115,101,115]
 |2=>[119,97,108,107,115]
 |_=>[98,111,117,110,100]
def xk(v p k b:Int):Nat->Int
 |0=>v
 |1=>p
 |2=>k
 |_=>b
def qx(v p k b:Int)(p8:Nat)(s:Nat)(B:LN_)(g:Nat->Nat):Env:=
 [(32,.int .i64 0),(34,.int .i64 v),(38,.int .i64 p),(42,.int .i64 k),(46,.int .i64 b),(8,.pointer (some ⟨p8,0,none⟩))]++((List.range s).map λ i=>(36+4*i,du (gG (z4 i) [xk v p k b i])))++B.map λ i=>(35+4*i,.slice (some ⟨g i,0,none⟩) 1 1)
def qw(V:LibV)(v p k b s:Int)(p8:Nat)(B:LN_)(g:Nat->Nat):Heap:=
 [blk p8 39 [.int .i64 v,.int .i64 p,.int .i64 k,.int .i64 s,.int .i64 b],.tab 0 V.oM,.tab 3 V.oP,.tab 5 V.oE]++B.map λ i=>blk (g i) 2 [.int .i64 (xk v p k b i)]
def qy(s:Nat)(B:LN_):Array Bool:=((List.range 22).map λ i=>[0,1,2,5,6,9,10,13,14].contains i||(B.map λ j=>3+4*j).contains i||((List.range s).map λ j=>4+4*j).contains i).toArray
section
variable {X:Cx} {ops:List Oper} {Q:e6} {Sf:Heap}
theorem dk{α:Type}{fuel:Nat}{listed:Array Bool}{E:Env}{H:Heap}(n:Nat)(L:Array Bool)(Fs:α->Env)(Ks:α->Heap)(key:∀ a,JA X ops Q Sf n L (Fs a) (Ks a))(h:(∀ a,JA X ops Q Sf n L (Fs a) (Ks a))->JA X ops Q Sf fuel listed E H):JA X ops Q Sf fuel listed E H:=h key
theorem cE{n:Nat}{listed L:Array Bool}{E F:Env}{H K:Heap}(ix:LN_)(hi:ix.Nodup)(hp:cI H ix=some Sf)(S:JA X ops Q Sf n L F K)(e:listed=L)(hE:nP E F)(jx:LN_)(hj:jx.Nodup)(hk:cI H jx=some K):JL X ops [] (M3 X ops Q Sf n listed) E H:=
 ah ⟨⟨ix,hi,hp⟩,λ a w inv hA hH=>S a w (e▸inv) (hA.ents _ hE) (hH.picks jx hj hk)|>λ h=>e▸h⟩
end
theorem Er(V:LibV)(pp p:Nat)(m:cO)(hm:m.sta.OK)(t:bP)(ba bf bs:Nat)(hat:m.At ba bf bs):
 Fn 108 [.pointer (some ⟨pp,0,none⟩)] [] (eO pp p m t ba bf bs++V.heap) λ v H'=>∃ o,m.sta.countR o/\GE o v H':=by
 refine aT Tryz.func108 λ w0=>?_;refine cW ?_;refine aG (v:=ap p 0) (a7 (i:=0) 0 rfl rfl rfl) ?_;refine cH (rV V m hm p ba bf bs hat) rfl ⟨⟨1,_,by simp[eO,eC],rfl,bn _ _ _,cC⟩,⟨2,_,by simp[eO,eC],rfl,bn _ _ _,cC⟩,⟨3,_,by simp[eO,eC],rfl,bn _ _ _,cC⟩,⟨4,_,by simp[eO,eC],rfl,bn _ _ _,cC⟩,⟨5,by simp[eO,eC],rfl⟩,⟨6,by simp[eO,eC],rfl⟩,⟨7,by simp[eO,eC],rfl⟩,be⟩ ?_;refine cS ?_;by_cases hz:m.sta.lack []≠0
 ·have hpz:m.sta.printZ=([],m.sta.lack []):=by unfold c9.printZ;rw[if_pos hz]
  rw[hpz];refine ak rfl (λ _=>?_) (λ h=>absurd hz h);refine aI ?_;refine dB (jy V (m.sta.lack []) (f9 _ _).inB none 0 0) rfl ⟨⟨5,by simp[eO,eC],rfl⟩,⟨6,by simp[eO,eC],rfl⟩,⟨7,by simp[eO,eC],rfl⟩,be⟩ ?_;rintro v H' (⟨h0,_⟩|⟨_,A2,c2,rfl,rfl⟩)
  case inl=>exact absurd h0 hz
  refine ef ?_;exact aL [0] ⟨_,rfl,_,.inl ⟨hz,rfl⟩,A2,c2,rfl,rfl⟩
 have hl00:m.sta.lack []=0:=Nn.1 hz;have hR:m.N.Right:=hm.net (gZ hl00);have hpz:m.sta.printZ=(jf m.N,0):=by unfold c9.printZ;rw[if_neg hz];rfl
 have hpl:=sw hR;rw[hpz];refine ak rfl (λ h=>absurd rfl h) (λ _=>ag ?_);refine aI ?_;have TP:=uB V (jf m.N) aa;rw[sK hR] at TP;refine fh TP rfl ⟨⟨5,by simp[eO,eC],rfl⟩,⟨6,by simp[eO,eC],rfl⟩,⟨7,by simp[eO,eC],rfl⟩,be⟩ ?_;rintro v H' ⟨A3,c3,rfl,rfl⟩;refine az ?_;refine dM λ p5=>?_;refine dz 0 ?_;refine fj (aH 1 rfl) λ ⟨_,_,hA3,hla⟩=>?_;obtain⟨g3,hA3⟩:=bo hA3 hla;refine fR ?_;refine bh (v:=cd m.N A3 c3) 0 ?_;refine fh (I7 m.N hR.fits4 hR A3 c3 g3 0 (fH hA3)) rfl ⟨gy 1 rfl hA3,be⟩ ?_;rintro v H' ⟨f,ph,k,s,hd,hp1,_,_,rfl,rfl⟩;refine az ?_;refine dM λ p8=>?_;refine tT ?_;obtain⟨hk,hph,hf⟩:=yI hR hd;have hv:=dl hR hf.toRanged m.N.snk;have hbz:=rL hR.nodes.1 hR.nodes.2 (by have:=hR.len;omega);have hout:m.sta.countR (ut m.N (dJ (m.N.arcs.zip f) m.N.snk) ph k):=.inr ⟨hl00,f,ph,k,hd,rfl⟩
 generalize dJ (m.N.arcs.zip f) m.N.snk=vv at hv hout ⊢
 generalize hbb:lL m.N=bb at hbz ⊢
 refine bQ (K:=[blk p8 39 [af vv,af ph,af k,af s,af bb]]++([.tab 0 V.oM,.tab 3 V.oP,.tab 5 V.oE]++[])) (aw.picks [0,8,9,10] ab rfl) ?_;have hcs:eg 69=true:=by kernel_rfl
 have hcl:=vN hR (v:=vv) (p:=ph) (k:=k) (by unfold b9;omega) (by unfold b9;omega) (by unfold b9;omega);unfold ut at hcl hout;rw[hbb,sv] at hcl;rw[hbb] at hout
 have hN:∀ i,∀ n∈[xk vv ph k bb i],b9 n:=λ i n hn=>by
  rw[Nh.1 hn];unfold xk b9;split<;>omega
 refine G9 [(8,ap p8 0),(4,af 0)] _ [0,1,2,3] a8 ab rfl<|cA ?_;refine lz (Sf:=[blk p8 39 [af vv,af ph,af k,af s,af bb]])<|jY [0,1,2,5,6,9,10,13,14] bC [0] ab rfl<|qZ ?_;refine cP<|dk (α:=Nat->Nat) 5 (qy 4 [0,1,2,3]) (qx vv ph k bb p8 4 [0,1,2,3]) (qw V vv ph k bb s p8 [0,1,2,3]) (λ g=>?_) λ S4_0123=>?_
 ·refine av 17 [] bC ab ⟨⟨_,rfl,?_⟩,trivial⟩;refine b5 rfl rfl rfl rfl rfl rfl rfl (fun _=>rfl) fun x=>ah ⟨⟨[1],by decide,rfl⟩,?_⟩;refine av 18 [] bC ab ⟨⟨_,rfl,?_⟩,trivial⟩;refine dB (tZ (aJ x 0) 4 4 x 0 [gG jK [vv],gG [112,104,97,115,101,115] [(ph:Int)],gG [119,97,108,107,115] [(k:Int)],gG [98,111,117,110,100] [bb]] rfl aE ab aa ai) rfl ⟨en 0 rfl,trivial⟩ ?_;refine jH ?_;refine⟨rfl,ah ⟨⟨[1],by decide,rfl⟩,?_⟩⟩;refine av 19 [] bC ab ⟨⟨_,rfl,?_⟩,trivial⟩;refine dp fun x2=>?_;refine lH 1 1 (by rfl) (by decide) (ah ⟨⟨[2],by decide,rfl⟩,?_⟩);refine av 20 [] bC ab ⟨⟨_,rfl,?_⟩,trivial⟩;refine dB (jy V 0 (by unfold b9;omega) (aJ x2 0) 1 1) rfl ⟨⟨3,ai,rfl⟩,⟨4,ai,rfl⟩,⟨5,ai,rfl⟩,trivial⟩ ?_;rintro v H' (⟨_,rfl,rfl⟩|⟨h0,_⟩)
  case inr=>exact absurd rfl h0
  refine⟨rfl,ah ⟨⟨[2],by decide,rfl⟩,?_⟩⟩;refine av 21 [] bC ab ⟨⟨_,rfl,?_⟩,be⟩;refine c8 [] rfl ⟨⟨[2],ab,rfl⟩,?_⟩;exact fb bC<|aL [0] ⟨_,rfl,_,hout,aJ x2 0,1,rfl,rfl⟩
 refine dk (α:=Nat->Nat) 6 (qy 3 [0,1,2,3]) (qx vv ph k bb p8 3 [0,1,2,3]) (qw V vv ph k bb s p8 [0,1,2,3]) (λ g=>?_) λ S3_0123=>?_
 ·refine av 16 [] bC ab ⟨⟨_,rfl,?_⟩,be⟩
  ·refine bj [] (fq V (z4 3) ab [xk vv ph k bb 3] (hN 3) ai (aJ ((g) 3) 0) 1 1 ((g) 3) 0 aE rfl) rfl rfl rfl rfl hcs ⟨en 7 rfl,⟨1,ai,rfl⟩,⟨2,ai,rfl⟩,⟨3,ai,rfl⟩,be⟩ aE λ v H' hq=>?_;obtain⟨rfl,rfl⟩:=hq;exact⟨rfl,cE [0] ab rfl (S4_0123 g) bC a8 [0,1,2,3,4,5,6,7] ab rfl⟩
 refine dk (α:=Nat->Nat) 7 (qy 3 [0,1,2]) (qx vv ph k bb p8 3 [0,1,2]) (qw V vv ph k bb s p8 [0,1,2]) (λ g=>?_) λ S3_012=>?_
 ·refine av 15 [] bC ab ⟨⟨_,rfl,?_⟩,be⟩
  ·refine b5 rfl rfl rfl rfl rfl rfl rfl (λ _=>rfl) λ x=>cE [1] (by decide) rfl (S3_0123 (λ j=>if j=3 then x else (g) j)) (by decide+kernel) ⟨rfl,rfl,rfl,rfl,rfl,rfl,rfl,rfl,rfl,rfl,rfl,rfl,rfl,be⟩ [1,2,3,4,5,6,7,0] (by decide) rfl
 refine dk (α:=Nat->Nat) 7 (qy 2 [0,1,2,3]) (qx vv ph k bb p8 2 [0,1,2,3]) (qw V vv ph k bb s p8 [0,1,2,3]) (λ g=>?_) λ S2_0123=>?_
 ·refine av 12 [] bC ab ⟨⟨_,rfl,?_⟩,be⟩
  ·refine bj [] (fq V (z4 2) ab [xk vv ph k bb 2] (hN 2) ai (aJ ((g) 2) 0) 1 1 ((g) 2) 0 aE rfl) rfl rfl rfl rfl hcs ⟨en 6 rfl,⟨1,ai,rfl⟩,⟨2,ai,rfl⟩,⟨3,ai,rfl⟩,be⟩ aE λ v H' hq=>?_;obtain⟨rfl,rfl⟩:=hq;exact⟨rfl,cE [0] ab rfl (S3_0123 g) bC a8 [0,1,2,3,4,5,6,7] ab rfl⟩
 refine dk (α:=Nat->Nat) 8 (qy 2 [0,1,3]) (qx vv ph k bb p8 2 [0,1,3]) (qw V vv ph k bb s p8 [0,1,3]) (λ g=>?_) λ S2_013=>?_
 ·refine av 11 [] bC ab ⟨⟨_,rfl,?_⟩,be⟩
  ·refine b5 rfl rfl rfl rfl rfl rfl rfl (λ _=>rfl) λ x=>cE [1] (by decide) rfl (S2_0123 (λ j=>if j=2 then x else (g) j)) (by decide+kernel) ⟨rfl,rfl,rfl,rfl,rfl,rfl,rfl,rfl,rfl,rfl,rfl,rfl,be⟩ [1,2,3,4,5,6,0,7] (by decide) rfl
 refine dk (α:=Nat->Nat) 8 (qy 2 [0,1,2]) (qx vv ph k bb p8 2 [0,1,2]) (qw V vv ph k bb s p8 [0,1,2]) (λ g=>?_) λ S2_012=>?_
 ·refine av 12 [15] bC ab ⟨⟨_,rfl,?_⟩,⟨_,rfl,?_⟩,be⟩
  ·refine bj [] (fq V (z4 2) ab [xk vv ph k bb 2] (hN 2) ai (aJ ((g) 2) 0) 1 1 ((g) 2) 0 aE rfl) rfl rfl rfl rfl hcs ⟨en 6 rfl,⟨1,ai,rfl⟩,⟨2,ai,rfl⟩,⟨3,ai,rfl⟩,be⟩ aE λ v H' hq=>?_;obtain⟨rfl,rfl⟩:=hq;exact⟨rfl,cE [0] ab rfl (S3_012 g) bC a8 [0,1,2,3,4,5,6] ab rfl⟩
  ·refine b5 rfl rfl rfl rfl rfl rfl rfl (λ _=>rfl) λ x=>cE [1] (by decide) rfl (S2_0123 (λ j=>if j=3 then x else (g) j)) (by decide+kernel) ⟨rfl,rfl,rfl,rfl,rfl,rfl,rfl,rfl,rfl,rfl,rfl,rfl,be⟩ [1,2,3,4,5,6,7,0] (by decide) rfl
 refine dk (α:=Nat->Nat) 9 (qy 2 [0,1]) (qx vv ph k bb p8 2 [0,1]) (qw V vv ph k bb s p8 [0,1]) (λ g=>?_) λ S2_01=>?_
 ·refine av 11 [15] bC ab ⟨⟨_,rfl,?_⟩,⟨_,rfl,?_⟩,be⟩
  ·refine b5 rfl rfl rfl rfl rfl rfl rfl (λ _=>rfl) λ x=>cE [1] (by decide) rfl (S2_012 (λ j=>if j=2 then x else (g) j)) (by decide+kernel) ⟨rfl,rfl,rfl,rfl,rfl,rfl,rfl,rfl,rfl,rfl,rfl,be⟩ [1,2,3,4,5,6,0] (by decide) rfl
  ·refine b5 rfl rfl rfl rfl rfl rfl rfl (λ _=>rfl) λ x=>cE [1] (by decide) rfl (S2_013 (λ j=>if j=3 then x else (g) j)) (by decide+kernel) ⟨rfl,rfl,rfl,rfl,rfl,rfl,rfl,rfl,rfl,rfl,rfl,be⟩ [1,2,3,4,5,6,0] (by decide) rfl
 refine dk (α:=Nat->Nat) 8 (qy 1 [0,1,2,3]) (qx vv ph k bb p8 1 [0,1,2,3]) (qw V vv ph k bb s p8 [0,1,2,3]) (λ g=>?_) λ S1_0123=>?_
 ·refine av 8 [] bC ab ⟨⟨_,rfl,?_⟩,be⟩
  ·refine bj [] (fq V (z4 1) ab [xk vv ph k bb 1] (hN 1) ai (aJ ((g) 1) 0) 1 1 ((g) 1) 0 aE rfl) rfl rfl rfl rfl hcs ⟨en 5 rfl,⟨1,ai,rfl⟩,⟨2,ai,rfl⟩,⟨3,ai,rfl⟩,be⟩ aE λ v H' hq=>?_;obtain⟨rfl,rfl⟩:=hq;exact⟨rfl,cE [0] ab rfl (S2_0123 g) bC a8 [0,1,2,3,4,5,6,7] ab rfl⟩
 refine dk (α:=Nat->Nat) 9 (qy 1 [0,2,3]) (qx vv ph k bb p8 1 [0,2,3]) (qw V vv ph k bb s p8 [0,2,3]) (λ g=>?_) λ S1_023=>?_
 ·refine av 7 [] bC ab ⟨⟨_,rfl,?_⟩,be⟩
  ·refine b5 rfl rfl rfl rfl rfl rfl rfl (λ _=>rfl) λ x=>cE [1] (by decide) rfl (S1_0123 (λ j=>if j=1 then x else (g) j)) (by decide+kernel) ⟨rfl,rfl,rfl,rfl,rfl,rfl,rfl,rfl,rfl,rfl,rfl,be⟩ [1,2,3,4,5,0,6,7] (by decide) rfl
 refine dk (α:=Nat->Nat) 9 (qy 1 [0,1,3]) (qx vv ph k bb p8 1 [0,1,3]) (qw V vv ph k bb s p8 [0,1,3]) (λ g=>?_) λ S1_013=>?_
 ·refine av 8 [11] bC ab ⟨⟨_,rfl,?_⟩,⟨_,rfl,?_⟩,be⟩
  ·refine bj [] (fq V (z4 1) ab [xk vv ph k bb 1] (hN 1) ai (aJ ((g) 1) 0) 1 1 ((g) 1) 0 aE rfl) rfl rfl rfl rfl hcs ⟨en 5 rfl,⟨1,ai,rfl⟩,⟨2,ai,rfl⟩,⟨3,ai,rfl⟩,be⟩ aE λ v H' hq=>?_;obtain⟨rfl,rfl⟩:=hq;exact⟨rfl,cE [0] ab rfl (S2_013 g) bC a8 [0,1,2,3,4,5,6] ab rfl⟩
  ·refine b5 rfl rfl rfl rfl rfl rfl rfl (λ _=>rfl) λ x=>cE [1] (by decide) rfl (S1_0123 (λ j=>if j=2 then x else (g) j)) (by decide+kernel) ⟨rfl,rfl,rfl,rfl,rfl,rfl,rfl,rfl,rfl,rfl,rfl,be⟩ [1,2,3,4,5,6,0,7] (by decide) rfl
 refine dk (α:=Nat->Nat) 9 (qy 1 [0,1,2]) (qx vv ph k bb p8 1 [0,1,2]) (qw V vv ph k bb s p8 [0,1,2]) (λ g=>?_) λ S1_012=>?_
 ·refine av 8 [15] bC ab ⟨⟨_,rfl,?_⟩,⟨_,rfl,?_⟩,be⟩
  ·refine bj [] (fq V (z4 1) ab [xk vv ph k bb 1] (hN 1) ai (aJ ((g) 1) 0) 1 1 ((g) 1) 0 aE rfl) rfl rfl rfl rfl hcs ⟨en 5 rfl,⟨1,ai,rfl⟩,⟨2,ai,rfl⟩,⟨3,ai,rfl⟩,be⟩ aE λ v H' hq=>?_;obtain⟨rfl,rfl⟩:=hq;exact⟨rfl,cE [0] ab rfl (S2_012 g) bC a8 [0,1,2,3,4,5,6] ab rfl⟩
  ·refine b5 rfl rfl rfl rfl rfl rfl rfl (λ _=>rfl) λ x=>cE [1] (by decide) rfl (S1_0123 (λ j=>if j=3 then x else (g) j)) (by decide+kernel) ⟨rfl,rfl,rfl,rfl,rfl,rfl,rfl,rfl,rfl,rfl,rfl,be⟩ [1,2,3,4,5,6,7,0] (by decide) rfl
 refine dk (α:=Nat->Nat) 10 (qy 1 [0,3]) (qx vv ph k bb p8 1 [0,3]) (qw V vv ph k bb s p8 [0,3]) (λ g=>?_) λ S1_03=>?_
 ·refine av 7 [11] bC ab ⟨⟨_,rfl,?_⟩,⟨_,rfl,?_⟩,be⟩
  ·refine b5 rfl rfl rfl rfl rfl rfl rfl (λ _=>rfl) λ x=>cE [1] (by decide) rfl (S1_013 (λ j=>if j=1 then x else (g) j)) (by decide+kernel) ⟨rfl,rfl,rfl,rfl,rfl,rfl,rfl,rfl,rfl,rfl,be⟩ [1,2,3,4,5,0,6] (by decide) rfl
  ·refine b5 rfl rfl rfl rfl rfl rfl rfl (λ _=>rfl) λ x=>cE [1] (by decide) rfl (S1_023 (λ j=>if j=2 then x else (g) j)) (by decide+kernel) ⟨rfl,rfl,rfl,rfl,rfl,rfl,rfl,rfl,rfl,rfl,be⟩ [1,2,3,4,5,0,6] (by decide) rfl
 refine dk (α:=Nat->Nat) 10 (qy 1 [0,2]) (qx vv ph k bb p8 1 [0,2]) (qw V vv ph k bb s p8 [0,2]) (λ g=>?_) λ S1_02=>?_
 ·refine av 7 [15] bC ab ⟨⟨_,rfl,?_⟩,⟨_,rfl,?_⟩,be⟩
  ·refine b5 rfl rfl rfl rfl rfl rfl rfl (λ _=>rfl) λ x=>cE [1] (by decide) rfl (S1_012 (λ j=>if j=1 then x else (g) j)) (by decide+kernel) ⟨rfl,rfl,rfl,rfl,rfl,rfl,rfl,rfl,rfl,rfl,be⟩ [1,2,3,4,5,0,6] (by decide) rfl
  ·refine b5 rfl rfl rfl rfl rfl rfl rfl (λ _=>rfl) λ x=>cE [1] (by decide) rfl (S1_023 (λ j=>if j=3 then x else (g) j)) (by decide+kernel) ⟨rfl,rfl,rfl,rfl,rfl,rfl,rfl,rfl,rfl,rfl,be⟩ [1,2,3,4,5,6,0] (by decide) rfl
 refine dk (α:=Nat->Nat) 10 (qy 1 [0,1]) (qx vv ph k bb p8 1 [0,1]) (qw V vv ph k bb s p8 [0,1]) (λ g=>?_) λ S1_01=>?_
 ·refine av 8 [11,15] bC ab ⟨⟨_,rfl,?_⟩,⟨_,rfl,?_⟩,⟨_,rfl,?_⟩,be⟩
  ·refine bj [] (fq V (z4 1) ab [xk vv ph k bb 1] (hN 1) ai (aJ ((g) 1) 0) 1 1 ((g) 1) 0 aE rfl) rfl rfl rfl rfl hcs ⟨en 5 rfl,⟨1,ai,rfl⟩,⟨2,ai,rfl⟩,⟨3,ai,rfl⟩,be⟩ aE λ v H' hq=>?_;obtain⟨rfl,rfl⟩:=hq;exact⟨rfl,cE [0] ab rfl (S2_01 g) bC a8 [0,1,2,3,4,5] ab rfl⟩
  ·refine b5 rfl rfl rfl rfl rfl rfl rfl (λ _=>rfl) λ x=>cE [1] (by decide) rfl (S1_012 (λ j=>if j=2 then x else (g) j)) (by decide+kernel) ⟨rfl,rfl,rfl,rfl,rfl,rfl,rfl,rfl,rfl,rfl,be⟩ [1,2,3,4,5,6,0] (by decide) rfl
  ·refine b5 rfl rfl rfl rfl rfl rfl rfl (λ _=>rfl) λ x=>cE [1] (by decide) rfl (S1_013 (λ j=>if j=3 then x else (g) j)) (by decide+kernel) ⟨rfl,rfl,rfl,rfl,rfl,rfl,rfl,rfl,rfl,rfl,be⟩ [1,2,3,4,5,6,0] (by decide) rfl
 refine dk (α:=Nat->Nat) 11 (qy 1 [0]) (qx vv ph k bb p8 1 [0]) (qw V vv ph k bb s p8 [0]) (λ g=>?_) λ S1_0=>?_
 ·refine av 7 [11,15] bC ab ⟨⟨_,rfl,?_⟩,⟨_,rfl,?_⟩,⟨_,rfl,?_⟩,be⟩
  ·refine b5 rfl rfl rfl rfl rfl rfl rfl (λ _=>rfl) λ x=>cE [1] (by decide) rfl (S1_01 (λ j=>if j=1 then x else (g) j)) (by decide+kernel) ⟨rfl,rfl,rfl,rfl,rfl,rfl,rfl,rfl,rfl,be⟩ [1,2,3,4,5,0] (by decide) rfl
  ·refine b5 rfl rfl rfl rfl rfl rfl rfl (λ _=>rfl) λ x=>cE [1] (by decide) rfl (S1_02 (λ j=>if j=2 then x else (g) j)) (by decide+kernel) ⟨rfl,rfl,rfl,rfl,rfl,rfl,rfl,rfl,rfl,be⟩ [1,2,3,4,5,0] (by decide) rfl
  ·refine b5 rfl rfl rfl rfl rfl rfl rfl (λ _=>rfl) λ x=>cE [1] (by decide) rfl (S1_03 (λ j=>if j=3 then x else (g) j)) (by decide+kernel) ⟨rfl,rfl,rfl,rfl,rfl,rfl,rfl,rfl,rfl,be⟩ [1,2,3,4,5,0] (by decide) rfl
 refine dk (α:=Nat->Nat) 9 (qy 0 [0,1,2,3]) (qx vv ph k bb p8 0 [0,1,2,3]) (qw V vv ph k bb s p8 [0,1,2,3]) (λ g=>?_) λ S0_0123=>?_
 ·refine av 4 [] bC ab ⟨⟨_,rfl,?_⟩,be⟩
  ·refine bj [] (fq V (z4 0) ab [xk vv ph k bb 0] (hN 0) ai (aJ ((g) 0) 0) 1 1 ((g) 0) 0 aE rfl) rfl rfl rfl rfl hcs ⟨en 4 rfl,⟨1,ai,rfl⟩,⟨2,ai,rfl⟩,⟨3,ai,rfl⟩,be⟩ aE λ v H' hq=>?_;obtain⟨rfl,rfl⟩:=hq;exact⟨rfl,cE [0] ab rfl (S1_0123 g) bC a8 [0,1,2,3,4,5,6,7] ab rfl⟩
 refine dk (α:=Nat->Nat) 10 (qy 0 [1,2,3]) (qx vv ph k bb p8 0 [1,2,3]) (qw V vv ph k bb s p8 [1,2,3]) (λ g=>?_) λ S0_123=>?_
 ·refine av 3 [] bC ab ⟨⟨_,rfl,?_⟩,be⟩
  ·refine b5 rfl rfl rfl rfl rfl rfl rfl (λ _=>rfl) λ x=>cE [1] (by decide) rfl (S0_0123 (λ j=>if j=0 then x else (g) j)) (by decide+kernel) ⟨rfl,rfl,rfl,rfl,rfl,rfl,rfl,rfl,rfl,rfl,be⟩ [1,2,3,4,0,5,6,7] (by decide) rfl
 refine dk (α:=Nat->Nat) 10 (qy 0 [0,2,3]) (qx vv ph k bb p8 0 [0,2,3]) (qw V vv ph k bb s p8 [0,2,3]) (λ g=>?_) λ S0_023=>?_
 ·refine av 4 [7] bC ab ⟨⟨_,rfl,?_⟩,⟨_,rfl,?_⟩,be⟩
  ·refine bj [] (fq V (z4 0) ab [xk vv ph k bb 0] (hN 0) ai (aJ ((g) 0) 0) 1 1 ((g) 0) 0 aE rfl) rfl rfl rfl rfl hcs ⟨en 4 rfl,⟨1,ai,rfl⟩,⟨2,ai,rfl⟩,⟨3,ai,rfl⟩,be⟩ aE λ v H' hq=>?_;obtain⟨rfl,rfl⟩:=hq;exact⟨rfl,cE [0] ab rfl (S1_023 g) bC a8 [0,1,2,3,4,5,6] ab rfl⟩
  ·refine b5 rfl rfl rfl rfl rfl rfl rfl (λ _=>rfl) λ x=>cE [1] (by decide) rfl (S0_0123 (λ j=>if j=1 then x else (g) j)) (by decide+kernel) ⟨rfl,rfl,rfl,rfl,rfl,rfl,rfl,rfl,rfl,rfl,be⟩ [1,2,3,4,5,0,6,7] (by decide) rfl
 refine dk (α:=Nat->Nat) 10 (qy 0 [0,1,3]) (qx vv ph k bb p8 0 [0,1,3]) (qw V vv ph k bb s p8 [0,1,3]) (λ g=>?_) λ S0_013=>?_
 ·refine av 4 [11] bC ab ⟨⟨_,rfl,?_⟩,⟨_,rfl,?_⟩,be⟩
  ·refine bj [] (fq V (z4 0) ab [xk vv ph k bb 0] (hN 0) ai (aJ ((g) 0) 0) 1 1 ((g) 0) 0 aE rfl) rfl rfl rfl rfl hcs ⟨en 4 rfl,⟨1,ai,rfl⟩,⟨2,ai,rfl⟩,⟨3,ai,rfl⟩,be⟩ aE λ v H' hq=>?_;obtain⟨rfl,rfl⟩:=hq;exact⟨rfl,cE [0] ab rfl (S1_013 g) bC a8 [0,1,2,3,4,5,6] ab rfl⟩
  ·refine b5 rfl rfl rfl rfl rfl rfl rfl (λ _=>rfl) λ x=>cE [1] (by decide) rfl (S0_0123 (λ j=>if j=2 then x else (g) j)) (by decide+kernel) ⟨rfl,rfl,rfl,rfl,rfl,rfl,rfl,rfl,rfl,rfl,be⟩ [1,2,3,4,5,6,0,7] (by decide) rfl
 refine dk (α:=Nat->Nat) 10 (qy 0 [0,1,2]) (qx vv ph k bb p8 0 [0,1,2]) (qw V vv ph k bb s p8 [0,1,2]) (λ g=>?_) λ S0_012=>?_
 ·refine av 4 [15] bC ab ⟨⟨_,rfl,?_⟩,⟨_,rfl,?_⟩,be⟩
  ·refine bj [] (fq V (z4 0) ab [xk vv ph k bb 0] (hN 0) ai (aJ ((g) 0) 0) 1 1 ((g) 0) 0 aE rfl) rfl rfl rfl rfl hcs ⟨en 4 rfl,⟨1,ai,rfl⟩,⟨2,ai,rfl⟩,⟨3,ai,rfl⟩,be⟩ aE λ v H' hq=>?_;obtain⟨rfl,rfl⟩:=hq;exact⟨rfl,cE [0] ab rfl (S1_012 g) bC a8 [0,1,2,3,4,5,6] ab rfl⟩
  ·refine b5 rfl rfl rfl rfl rfl rfl rfl (λ _=>rfl) λ x=>cE [1] (by decide) rfl (S0_0123 (λ j=>if j=3 then x else (g) j)) (by decide+kernel) ⟨rfl,rfl,rfl,rfl,rfl,rfl,rfl,rfl,rfl,rfl,be⟩ [1,2,3,4,5,6,7,0] (by decide) rfl
 refine dk (α:=Nat->Nat) 11 (qy 0 [2,3]) (qx vv ph k bb p8 0 [2,3]) (qw V vv ph k bb s p8 [2,3]) (λ g=>?_) λ S0_23=>?_
 ·refine av 3 [7] bC ab ⟨⟨_,rfl,?_⟩,⟨_,rfl,?_⟩,be⟩
  ·refine b5 rfl rfl rfl rfl rfl rfl rfl (λ _=>rfl) λ x=>cE [1] (by decide) rfl (S0_023 (λ j=>if j=0 then x else (g) j)) (by decide+kernel) ⟨rfl,rfl,rfl,rfl,rfl,rfl,rfl,rfl,rfl,be⟩ [1,2,3,4,0,5,6] (by decide) rfl
  ·refine b5 rfl rfl rfl rfl rfl rfl rfl (λ _=>rfl) λ x=>cE [1] (by decide) rfl (S0_123 (λ j=>if j=1 then x else (g) j)) (by decide+kernel) ⟨rfl,rfl,rfl,rfl,rfl,rfl,rfl,rfl,rfl,be⟩ [1,2,3,4,0,5,6] (by decide) rfl
 refine dk (α:=Nat->Nat) 11 (qy 0 [1,3]) (qx vv ph k bb p8 0 [1,3]) (qw V vv ph k bb s p8 [1,3]) (λ g=>?_) λ S0_13=>?_
 ·refine av 3 [11] bC ab ⟨⟨_,rfl,?_⟩,⟨_,rfl,?_⟩,be⟩
  ·refine b5 rfl rfl rfl rfl rfl rfl rfl (λ _=>rfl) λ x=>cE [1] (by decide) rfl (S0_013 (λ j=>if j=0 then x else (g) j)) (by decide+kernel) ⟨rfl,rfl,rfl,rfl,rfl,rfl,rfl,rfl,rfl,be⟩ [1,2,3,4,0,5,6] (by decide) rfl
  ·refine b5 rfl rfl rfl rfl rfl rfl rfl (λ _=>rfl) λ x=>cE [1] (by decide) rfl (S0_123 (λ j=>if j=2 then x else (g) j)) (by decide+kernel) ⟨rfl,rfl,rfl,rfl,rfl,rfl,rfl,rfl,rfl,be⟩ [1,2,3,4,5,0,6] (by decide) rfl
 refine dk (α:=Nat->Nat) 11 (qy 0 [1,2]) (qx vv ph k bb p8 0 [1,2]) (qw V vv ph k bb s p8 [1,2]) (λ g=>?_) λ S0_12=>?_
 ·refine av 3 [15] bC ab ⟨⟨_,rfl,?_⟩,⟨_,rfl,?_⟩,be⟩
  ·refine b5 rfl rfl rfl rfl rfl rfl rfl (λ _=>rfl) λ x=>cE [1] (by decide) rfl (S0_012 (λ j=>if j=0 then x else (g) j)) (by decide+kernel) ⟨rfl,rfl,rfl,rfl,rfl,rfl,rfl,rfl,rfl,be⟩ [1,2,3,4,0,5,6] (by decide) rfl
  ·refine b5 rfl rfl rfl rfl rfl rfl rfl (λ _=>rfl) λ x=>cE [1] (by decide) rfl (S0_123 (λ j=>if j=3 then x else (g) j)) (by decide+kernel) ⟨rfl,rfl,rfl,rfl,rfl,rfl,rfl,rfl,rfl,be⟩ [1,2,3,4,5,6,0] (by decide) rfl
 refine dk (α:=Nat->Nat) 11 (qy 0 [0,3]) (qx vv ph k bb p8 0 [0,3]) (qw V vv ph k bb s p8 [0,3]) (λ g=>?_) λ S0_03=>?_
 ·refine av 4 [7,11] bC ab ⟨⟨_,rfl,?_⟩,⟨_,rfl,?_⟩,⟨_,rfl,?_⟩,be⟩
  ·refine bj [] (fq V (z4 0) ab [xk vv ph k bb 0] (hN 0) ai (aJ ((g) 0) 0) 1 1 ((g) 0) 0 aE rfl) rfl rfl rfl rfl hcs ⟨en 4 rfl,⟨1,ai,rfl⟩,⟨2,ai,rfl⟩,⟨3,ai,rfl⟩,be⟩ aE λ v H' hq=>?_;obtain⟨rfl,rfl⟩:=hq;exact⟨rfl,cE [0] ab rfl (S1_03 g) bC a8 [0,1,2,3,4,5] ab rfl⟩
  ·refine b5 rfl rfl rfl rfl rfl rfl rfl (λ _=>rfl) λ x=>cE [1] (by decide) rfl (S0_013 (λ j=>if j=1 then x else (g) j)) (by decide+kernel) ⟨rfl,rfl,rfl,rfl,rfl,rfl,rfl,rfl,rfl,be⟩ [1,2,3,4,5,0,6] (by decide) rfl
  ·refine b5 rfl rfl rfl rfl rfl rfl rfl (λ _=>rfl) λ x=>cE [1] (by decide) rfl (S0_023 (λ j=>if j=2 then x else (g) j)) (by decide+kernel) ⟨rfl,rfl,rfl,rfl,rfl,rfl,rfl,rfl,rfl,be⟩ [1,2,3,4,5,0,6] (by decide) rfl
 refine dk (α:=Nat->Nat) 11 (qy 0 [0,2]) (qx vv ph k bb p8 0 [0,2]) (qw V vv ph k bb s p8 [0,2]) (λ g=>?_) λ S0_02=>?_
 ·refine av 4 [7,15] bC ab ⟨⟨_,rfl,?_⟩,⟨_,rfl,?_⟩,⟨_,rfl,?_⟩,be⟩
  ·refine bj [] (fq V (z4 0) ab [xk vv ph k bb 0] (hN 0) ai (aJ ((g) 0) 0) 1 1 ((g) 0) 0 aE rfl) rfl rfl rfl rfl hcs ⟨en 4 rfl,⟨1,ai,rfl⟩,⟨2,ai,rfl⟩,⟨3,ai,rfl⟩,be⟩ aE λ v H' hq=>?_;obtain⟨rfl,rfl⟩:=hq;exact⟨rfl,cE [0] ab rfl (S1_02 g) bC a8 [0,1,2,3,4,5] ab rfl⟩
  ·refine b5 rfl rfl rfl rfl rfl rfl rfl (λ _=>rfl) λ x=>cE [1] (by decide) rfl (S0_012 (λ j=>if j=1 then x else (g) j)) (by decide+kernel) ⟨rfl,rfl,rfl,rfl,rfl,rfl,rfl,rfl,rfl,be⟩ [1,2,3,4,5,0,6] (by decide) rfl
  ·refine b5 rfl rfl rfl rfl rfl rfl rfl (λ _=>rfl) λ x=>cE [1] (by decide) rfl (S0_023 (λ j=>if j=3 then x else (g) j)) (by decide+kernel) ⟨rfl,rfl,rfl,rfl,rfl,rfl,rfl,rfl,rfl,be⟩ [1,2,3,4,5,6,0] (by decide) rfl
 refine dk (α:=Nat->Nat) 11 (qy 0 [0,1]) (qx vv ph k bb p8 0 [0,1]) (qw V vv ph k bb s p8 [0,1]) (λ g=>?_) λ S0_01=>?_
 ·refine av 4 [11,15] bC ab ⟨⟨_,rfl,?_⟩,⟨_,rfl,?_⟩,⟨_,rfl,?_⟩,be⟩
  ·refine bj [] (fq V (z4 0) ab [xk vv ph k bb 0] (hN 0) ai (aJ ((g) 0) 0) 1 1 ((g) 0) 0 aE rfl) rfl rfl rfl rfl hcs ⟨en 4 rfl,⟨1,ai,rfl⟩,⟨2,ai,rfl⟩,⟨3,ai,rfl⟩,be⟩ aE λ v H' hq=>?_;obtain⟨rfl,rfl⟩:=hq;exact⟨rfl,cE [0] ab rfl (S1_01 g) bC a8 [0,1,2,3,4,5] ab rfl⟩
  ·refine b5 rfl rfl rfl rfl rfl rfl rfl (λ _=>rfl) λ x=>cE [1] (by decide) rfl (S0_012 (λ j=>if j=2 then x else (g) j)) (by decide+kernel) ⟨rfl,rfl,rfl,rfl,rfl,rfl,rfl,rfl,rfl,be⟩ [1,2,3,4,5,6,0] (by decide) rfl
  ·refine b5 rfl rfl rfl rfl rfl rfl rfl (λ _=>rfl) λ x=>cE [1] (by decide) rfl (S0_013 (λ j=>if j=3 then x else (g) j)) (by decide+kernel) ⟨rfl,rfl,rfl,rfl,rfl,rfl,rfl,rfl,rfl,be⟩ [1,2,3,4,5,6,0] (by decide) rfl
 refine dk (α:=Nat->Nat) 12 (qy 0 [3]) (qx vv ph k bb p8 0 [3]) (qw V vv ph k bb s p8 [3]) (λ g=>?_) λ S0_3=>?_
 ·refine av 3 [7,11] bC ab ⟨⟨_,rfl,?_⟩,⟨_,rfl,?_⟩,⟨_,rfl,?_⟩,be⟩
  ·refine b5 rfl rfl rfl rfl rfl rfl rfl (λ _=>rfl) λ x=>cE [1] (by decide) rfl (S0_03 (λ j=>if j=0 then x else (g) j)) (by decide+kernel) ⟨rfl,rfl,rfl,rfl,rfl,rfl,rfl,rfl,be⟩ [1,2,3,4,0,5] (by decide) rfl
  ·refine b5 rfl rfl rfl rfl rfl rfl rfl (λ _=>rfl) λ x=>cE [1] (by decide) rfl (S0_13 (λ j=>if j=1 then x else (g) j)) (by decide+kernel) ⟨rfl,rfl,rfl,rfl,rfl,rfl,rfl,rfl,be⟩ [1,2,3,4,0,5] (by decide) rfl
  ·refine b5 rfl rfl rfl rfl rfl rfl rfl (λ _=>rfl) λ x=>cE [1] (by decide) rfl (S0_23 (λ j=>if j=2 then x else (g) j)) (by decide+kernel) ⟨rfl,rfl,rfl,rfl,rfl,rfl,rfl,rfl,be⟩ [1,2,3,4,0,5] (by decide) rfl
 refine dk (α:=Nat->Nat) 12 (qy 0 [2]) (qx vv ph k bb p8 0 [2]) (qw V vv ph k bb s p8 [2]) (λ g=>?_) λ S0_2=>?_
 ·refine av 3 [7,15] bC ab ⟨⟨_,rfl,?_⟩,⟨_,rfl,?_⟩,⟨_,rfl,?_⟩,be⟩
  ·refine b5 rfl rfl rfl rfl rfl rfl rfl (λ _=>rfl) λ x=>cE [1] (by decide) rfl (S0_02 (λ j=>if j=0 then x else (g) j)) (by decide+kernel) ⟨rfl,rfl,rfl,rfl,rfl,rfl,rfl,rfl,be⟩ [1,2,3,4,0,5] (by decide) rfl
  ·refine b5 rfl rfl rfl rfl rfl rfl rfl (λ _=>rfl) λ x=>cE [1] (by decide) rfl (S0_12 (λ j=>if j=1 then x else (g) j)) (by decide+kernel) ⟨rfl,rfl,rfl,rfl,rfl,rfl,rfl,rfl,be⟩ [1,2,3,4,0,5] (by decide) rfl
  ·refine b5 rfl rfl rfl rfl rfl rfl rfl (λ _=>rfl) λ x=>cE [1] (by decide) rfl (S0_23 (λ j=>if j=3 then x else (g) j)) (by decide+kernel) ⟨rfl,rfl,rfl,rfl,rfl,rfl,rfl,rfl,be⟩ [1,2,3,4,5,0] (by decide) rfl
 refine dk (α:=Nat->Nat) 12 (qy 0 [1]) (qx vv ph k bb p8 0 [1]) (qw V vv ph k bb s p8 [1]) (λ g=>?_) λ S0_1=>?_
 ·refine av 3 [11,15] bC ab ⟨⟨_,rfl,?_⟩,⟨_,rfl,?_⟩,⟨_,rfl,?_⟩,be⟩
  ·refine b5 rfl rfl rfl rfl rfl rfl rfl (λ _=>rfl) λ x=>cE [1] (by decide) rfl (S0_01 (λ j=>if j=0 then x else (g) j)) (by decide+kernel) ⟨rfl,rfl,rfl,rfl,rfl,rfl,rfl,rfl,be⟩ [1,2,3,4,0,5] (by decide) rfl
  ·refine b5 rfl rfl rfl rfl rfl rfl rfl (λ _=>rfl) λ x=>cE [1] (by decide) rfl (S0_12 (λ j=>if j=2 then x else (g) j)) (by decide+kernel) ⟨rfl,rfl,rfl,rfl,rfl,rfl,rfl,rfl,be⟩ [1,2,3,4,5,0] (by decide) rfl
  ·refine b5 rfl rfl rfl rfl rfl rfl rfl (λ _=>rfl) λ x=>cE [1] (by decide) rfl (S0_13 (λ j=>if j=3 then x else (g) j)) (by decide+kernel) ⟨rfl,rfl,rfl,rfl,rfl,rfl,rfl,rfl,be⟩ [1,2,3,4,5,0] (by decide) rfl
 refine dk (α:=Nat->Nat) 12 (qy 0 [0]) (qx vv ph k bb p8 0 [0]) (qw V vv ph k bb s p8 [0]) (λ g=>?_) λ S0_0=>?_
 ·refine av 4 [7,11,15] bC ab ⟨⟨_,rfl,?_⟩,⟨_,rfl,?_⟩,⟨_,rfl,?_⟩,⟨_,rfl,?_⟩,be⟩
  ·refine bj [] (fq V (z4 0) ab [xk vv ph k bb 0] (hN 0) ai (aJ ((g) 0) 0) 1 1 ((g) 0) 0 aE rfl) rfl rfl rfl rfl hcs ⟨en 4 rfl,⟨1,ai,rfl⟩,⟨2,ai,rfl⟩,⟨3,ai,rfl⟩,be⟩ aE λ v H' hq=>?_;obtain⟨rfl,rfl⟩:=hq;exact⟨rfl,cE [0] ab rfl (S1_0 g) bC a8 [0,1,2,3,4] ab rfl⟩
  ·refine b5 rfl rfl rfl rfl rfl rfl rfl (λ _=>rfl) λ x=>cE [1] (by decide) rfl (S0_01 (λ j=>if j=1 then x else (g) j)) (by decide+kernel) ⟨rfl,rfl,rfl,rfl,rfl,rfl,rfl,rfl,be⟩ [1,2,3,4,5,0] (by decide) rfl
  ·refine b5 rfl rfl rfl rfl rfl rfl rfl (λ _=>rfl) λ x=>cE [1] (by decide) rfl (S0_02 (λ j=>if j=2 then x else (g) j)) (by decide+kernel) ⟨rfl,rfl,rfl,rfl,rfl,rfl,rfl,rfl,be⟩ [1,2,3,4,5,0] (by decide) rfl
  ·refine b5 rfl rfl rfl rfl rfl rfl rfl (λ _=>rfl) λ x=>cE [1] (by decide) rfl (S0_03 (λ j=>if j=3 then x else (g) j)) (by decide+kernel) ⟨rfl,rfl,rfl,rfl,rfl,rfl,rfl,rfl,be⟩ [1,2,3,4,5,0] (by decide) rfl
 refine av 3 [7,11,15] bC ab ⟨⟨_,rfl,?_⟩,⟨_,rfl,?_⟩,⟨_,rfl,?_⟩,⟨_,rfl,?_⟩,be⟩
 ·refine b5 rfl rfl rfl rfl rfl rfl rfl (λ _=>rfl) λ x=>cE [1] (by decide) rfl (S0_0 (λ j=>if j=0 then x else (λ _=>0) j)) (by decide+kernel) ⟨rfl,rfl,rfl,rfl,rfl,rfl,rfl,be⟩ [1,2,3,4,0] (by decide) rfl
 ·refine b5 rfl rfl rfl rfl rfl rfl rfl (λ _=>rfl) λ x=>cE [1] (by decide) rfl (S0_1 (λ j=>if j=1 then x else (λ _=>0) j)) (by decide+kernel) ⟨rfl,rfl,rfl,rfl,rfl,rfl,rfl,be⟩ [1,2,3,4,0] (by decide) rfl
 ·refine b5 rfl rfl rfl rfl rfl rfl rfl (λ _=>rfl) λ x=>cE [1] (by decide) rfl (S0_2 (λ j=>if j=2 then x else (λ _=>0) j)) (by decide+kernel) ⟨rfl,rfl,rfl,rfl,rfl,rfl,rfl,be⟩ [1,2,3,4,0] (by decide) rfl
 ·refine b5 rfl rfl rfl rfl rfl rfl rfl (λ _=>rfl) λ x=>cE [1] (by decide) rfl (S0_3 (λ j=>if j=3 then x else (λ _=>0) j)) (by decide+kernel) ⟨rfl,rfl,rfl,rfl,rfl,rfl,rfl,be⟩ [1,2,3,4,0] (by decide) rfl
end Go.Proofs.YtmcnpaelaieniaaGreatDoor
