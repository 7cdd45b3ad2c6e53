import Derived.Test.YtmcnpaelaieniaaGreatDoorQX132
import Derived.Laws.StructEq
import Derived.ChangeKeysEq
import Derived.SizedLaws
import Derived.ChangeSlices
import Derived.Deep.Slices
import Derived.Deep.Fields
import Derived.ChangeSame
import Derived.ShutString
import Derived.ChangeOld
import Derived.SliceStrings
import Derived.Test.YtmcnpaelaieniaaGreatDoorRows
import Derived.HandedShaped
import Derived.Handed
import Derived.Lib.LaidU8
import Derived.LaidLaws
import Derived.MakeChecks
/- A part of the proof. -/
set_option linter.unusedVariables false
set_option linter.unusedSimpArgs false
set_option maxHeartbeats 8000000
namespace Go.Proofs.YtmcnpaelaieniaaGreatDoor
open Go.RowKit
open Lib
def AW(m:cP):Prop:=m=[]\/∃ m',m=m'++[10]
theorem Jm{o:List cP}{k:Nat}{x:cP}(h:o[k]?=some x):sz (o.take (k+1))=sz (o.take k)+(x.length+1):=by
 unfold sz;rw[Nu,h,NI,ON];simp
theorem KV(o:List cP)(k:Nat):sz (o.take k)<=sz o:=by
 have:sz o=sz (o.take k)+sz (o.drop k):=by unfold sz;rw[<- ON,<- NI,Oa]
 omega
theorem Gl:∀ o:List cP,o.length<=sz o
 |[]=>Nl _
 |x::o=>by
  have:=Gl o;unfold sz at this ⊢;simp only[Nh,Nv,ND];omega
def vA(rows:List ub)(k:Nat):Nat:=((rows.take k).map λ r=>sz r.l).sum
theorem wv{rows:List ub}{k:Nat}{r:ub}(h:rows[k]?=some r):vA rows (k+1)=vA rows k+sz r.l:=by
 unfold vA;rw[Nu,h,NI,ON];simp
theorem CV{rows:List ub}(h:∀ r∈rows,sz r.l<=90000000):∀ k,vA rows k<=k*90000000
 |0=>by simp[vA]
 |k+1=>by
  have ih:=CV h k
  cases hk:rows[k]? with
  |none=>
   have:vA rows (k+1)=vA rows k:=by unfold vA;rw[Nu,hk];simp
   omega
  |some r=>
   have:=wv hk;have:=h r (Nb hk);omega
theorem zE:∀ rows:List ub,f7 (rows.map vw)=true
 |[]=>rfl
 |_::rows=>zE rows
theorem Kn(V:LibV)(s:cP)(hs:s.length<4294967281)(hL:s.length<=20000->(aB s).length<=300->∀ l∈aB s,l.length<=3000):Fn 33 [dk s] [] V.heap λ v H'=>∃ r:cP,AW r/\r.length<=30000000000/\v=dk r/\H'=[]:=by
 refine aT Tryz.func33 λ w0=>?_;refine Hd ?_;rintro v H' ⟨Al,rfl,rfl⟩;refine aN ?_;by_cases hok:s.length<=20000/\(aB s).length<=300
 case neg=>
  rw[aU hok];refine ao ?_;refine eu ?_;exact aM [] ⟨_,rfl,[116,111,111,32,108,111,110,103,10],.inr ⟨[116,111,111,32,108,111,110,103],rfl⟩,ab,rfl,rfl⟩
 rw[aQ hok];have hLL:=hL hok.1 hok.2;refine ao ?_;refine bo rfl (ag ?_);refine bu ?_;refine dD λ p5=>?_;refine kp 5 1<|cD (K:=mi p5 (.pointer none) none 0 []++V.heap) (ay.picks [1,0,3,4,5] ab rfl)<|dQ ?_;refine dG (yg V (Lu V) s hs (λ h1 h2 l hl=>⟨an,hL h1 h2 l hl⟩)) rfl ⟨⟨2,by simp[LibV.heap,mi],rfl⟩,⟨3,by simp[LibV.heap,mi],rfl⟩,⟨4,by simp[LibV.heap,mi],rfl⟩,an⟩ ?_;rintro v H' ⟨rows,A,c,hT,_,rfl,rfl⟩;obtain⟨q1,t1,hT⟩:=hT hok.1 hok.2;have hln:=wE hT;rw[Nm] at hln;have hsz:∀ r∈rows,sz r.l<=90000000:=λ r hr=>Cr Cy (λ l hl=>hLL l hl) (by have:=hok.2;simp only[NC];omega) hT _ (OM hr);have hrl:rows.length<=300:=by have:=hok.2;omega
 refine⟨dl rfl (zE rows),?_⟩;refine aN ?_;unfold B4;refine bS (K:=([.own (.slice A rows.length c) 22 1 rows.length (rows.map DJ)]++(mi p5 (.pointer none) none 0 []++V.heap))++rows.map vw) ay.swap<|bS (K:=([.own (.slice A rows.length c) 22 1 rows.length (rows.map DJ)]++mi p5 (.pointer none) none 0 [])++rows.map vw) (ay.re [0,1,2] rfl ab)<|gK ?_;refine aR (aH 0 rfl) λ ⟨_,_,hA0,_⟩=>?_
 refine cA (σ:=Nat×Value×OA_×Nat×cP) (λ q=>[(20,af q.1),(19,af rows.length),(18,.slice A rows.length c),(5,ap p5 0)])
  (λ q=>([.own (.slice A rows.length c) 22 1 rows.length (rows.map DJ)]++mi p5 q.2.1 q.2.2.1 q.2.2.2.1 q.2.2.2.2)++rows.map vw)
  (λ q=>q.1<=rows.length/\Kp p5 q.2.1/\AW q.2.2.2.2/\q.2.2.2.2.length<=vA rows q.1) (λ q=>rows.length-q.1)
  (0,.pointer none,none,0,[]) a7 ay.refl ⟨Nl _,.inl rfl,.inl rfl,Nl _⟩ ?_
 rintro⟨k,pv,Ab,cb,m⟩ ⟨hk,hp,hm,hml⟩;simp only at hk hp hm hml ⊢;have hsk:=CV hsz k;refine ao ?_;refine am (ak rfl (λ hlt=>ag ?_) (λ hge=>aO ?_))
 ·have hlt:k<rows.length:=by omega
  obtain⟨g,rfl⟩:=hA0 aa;obtain⟨⟨Ar,cr,lr⟩,hr⟩:∃ r,rows[k]?=some r:=⟨rows[k],be hlt⟩;have hrs:=hsz _ (Nb hr);have hss:=wv hr;simp only at hrs hss;have hlz:=Gl lr;have hrow:(rows.map vw)[k]?=some (vw ⟨Ar,cr,lr⟩):=by rw[Nk,hr];rfl
  refine bS (ay.front (i:=k) (c:=vw ⟨Ar,cr,lr⟩) hrow) ?_;obtain⟨W,hW⟩:∃ W,W=(rows.map vw).eraseIdx k:=⟨_,rfl⟩;rw[<- hW];refine aR (aH 0 (show _=some (vw ⟨Ar,cr,lr⟩) from rfl)) λ ⟨_,_,hr0,_⟩=>am (aq ?_);refine qQ ?_;refine aF (v:=DJ ⟨Ar,cr,lr⟩) (aw 1 rfl rfl rfl (show (rows.map DJ)[k]?=some (DJ ⟨Ar,cr,lr⟩) by rw[Nk,hr];rfl)) ?_;refine qg ?_
  refine cA (σ:=Nat×Value×OA_×Nat×cP) (λ q=>[(26,af q.1),(25,af lr.length),(24,.slice Ar lr.length cr),(20,af k),(19,af rows.length),(18,ax g 0 rows.length c),(5,ap p5 0)])
   (λ q=>vw ⟨Ar,cr,lr⟩::(([.own (ax g 0 rows.length c) 22 1 rows.length (rows.map DJ)]++mi p5 q.2.1 q.2.2.1 q.2.2.2.1 q.2.2.2.2)++W))
   (λ q=>q.1<=lr.length/\Kp p5 q.2.1/\AW q.2.2.2.2/\q.2.2.2.2.length<=vA rows k+sz (lr.take q.1)) (λ q=>lr.length-q.1)
   (0,pv,Ab,cb,m) a7 ay.refl ⟨Nl _,hp,hm,by simp only;omega⟩ ?_
  rintro⟨j,pw,Ac,cc,m2⟩ ⟨hj,hp2,hm2,hml2⟩;simp only at hj hp2 hm2 hml2 ⊢;have hsl:=KV lr j;refine ao ?_;refine am (ak rfl (λ hlt2=>ag ?_) (λ hge2=>aO ?_))
  ·have hlt2:j<lr.length:=by omega
   obtain⟨gr,rfl⟩:=hr0 (show 0<lr.length by omega);obtain⟨x,hx⟩:∃ x,lr[j]?=some x:=⟨lr[j],be hlt2⟩;have hsx:=Jm hx;have hsy:=KV lr (j+1);refine am (aq ?_);refine aI ?_;refine aF (bn rfl hlt2) ?_;refine aF (v:=dk x) (aw 0 rfl rfl rfl (eg hx)) ?_;refine dQ ?_;refine aF (iW (m:=[10]) rfl rfl rfl eK) ?_;refine bK (fst:=[]) (cap:=[]) [] (tI p5 pw hp2 Ac cc m2 (x++[10]) eK) rfl rfl rfl rfl aX (K:=[vw ⟨aL gr 0,cr,lr⟩,.own (ax g 0 rows.length c) 22 1 rows.length (rows.map DJ)]++W) (ay.re (A:=[_,_,_,_]) [2,3,0,1] rfl ab) an aK ?_;rintro v H' ⟨A4,c4,rfl⟩;refine fD ?_;refine⟨(j+1,_,A4,c4,m2++(x++[10])),⟨Na (λ z=>some (af z)) (cp aa),rfl,rfl,rfl,rfl,rfl,rfl,an⟩,ay.re (A:=[_,_,_,_]) [2,3,0,1] rfl ab,⟨by simp only;omega,.inr rfl,.inr ⟨m2++x,ai⟩,?_⟩,by simp only;omega⟩;refine AX ?_;omega
  obtain rfl:j=lr.length:=aa;rw[NH] at hml2;refine ao ?_;refine⟨(k+1,pw,Ac,cc,m2),⟨Na (λ z=>some (af z)) (cp aa),rfl,rfl,rfl,an⟩,?_,⟨by simp only;omega,hp2,hm2,by simp only;omega⟩,by simp only;omega⟩;rw[hW];exact ay.unfront (A:=[_,_,_]) hrow
 obtain rfl:k=rows.length:=aa;refine bS (K:=mi p5 pv Ab cb m++rows.map vw) (ay.re (A:=[_,_,_]) [1,2] rfl ab)<|aI ?_;refine Ch (X:=⟨w0,[],_⟩) [] rfl (λ w hw=>Ho rfl p5 pv hp Ab cb m hw) rfl rfl rfl rfl aX rfl<|aN ?_;exact bN ⟨_,rfl,m,hm,aa,rfl,rfl⟩
theorem G6(w:World)(a b c:Int):(Op.equalIn 10000 37 (.agg #[.int .i64 a,.int .i64 b,.int .i64 c]) (.agg #[.int .i64 a,.int .i64 b,.int .i64 c])).run Tryz.prog w=.ok true w:=by
 have h2:∀ (i:Nat) (v:Value),#[af a,af b,af c][i]?=some v->(part 2 #[af a,af b,af c] i).run Tryz.prog w=.ok v w:=λ i v h=>run_part_plain w aX h;have h3:∀ (i:Nat) (v:Value),#[af a,af b,af c][i]?=some v->(part 3 #[af a,af b,af c] i).run Tryz.prog w=.ok v w:=λ i v h=>run_part_plain w aX h;have g2:∀ x y:Int,(Op.equalIn 9999 2 (af x) (af y)).run Tryz.prog w=.ok (x==y) w:=λ x y=>run_equalIn_int w 9998 2 .i64 .i64 x y Tryz.underlying2;have g3:∀ x y:Int,(Op.equalIn 9999 3 (af x) (af y)).run Tryz.prog w=.ok (x==y) w:=λ x y=>run_equalIn_int w 9998 3 .i64 .i64 x y Tryz.underlying3;rw[run_equalIn_agg w 9999 37 _ _ (by simp[Program.fieldsOf,Tryz.underlying37]) Tryz.stoodInHeld37];simp only[Program.fieldsOf,Tryz.underlying37,Op.eqFields,Sem.run_bind,Sem.run_ite,Sem.run_pure];simp[h3 0 _ rfl,h3 1 _ rfl,h2 2 _ rfl,g2,g3]
theorem xe{X:Cx}{E:Env}{H:Heap}{o:Oper}{t':Nat}{x y:Operand}{a b c:Int}(ho:o.op=.binOp .eql 37 x y t')(hx:val E x=some (.agg #[.int .i64 a,.int .i64 b,.int .i64 c]))(hy:val E y=some (.agg #[.int .i64 a,.int .i64 b,.int .i64 c])):
 i8 X o E H (.bool true):=by
 intro ac w hA hH;simp[execOp,ho,hA.val hx,hA.val hy,run_eqGuard_agg w .eql 37 _ _ _ _ Tryz.eqGuardType37,run_eql_struct,G6]
def yk(a:ej):Value:=.agg #[.int .i64 a.fr,.int .i64 a.to,.int .i64 a.cap]
theorem HH(a:ej):Fn 56 [yk a,yk a] [] [] λ v H'=>v=.bool true/\H'=[]:=by
 refine aT Tryz.func56 λ w0=>?_;refine bu ?_;refine cY (cs:=[af a.fr,af a.to,af a.cap]) λ p1=>?_;refine cY (cs:=[af a.fr,af a.to,af a.cap]) λ p2=>?_;refine dQ ?_;refine aF (v:=yk a) (a8 (i:=0) 1 rfl rfl rfl rfl) ?_;refine aF (v:=yk a) (a8 (i:=0) 0 rfl rfl rfl rfl) ?_;refine aF (xe rfl rfl rfl) ?_;exact lG
theorem Gp(l:List ej)(hl:l.length<=100000)(A:OA_)(c b o:Nat)(hA:l≠[]->A=some ⟨b,o,none⟩)(A2:OA_)(c2 b2 o2:Nat)(hA2:l≠[]->A2=some ⟨b2,o2,none⟩):
 Fn 57 [.slice A l.length c,.slice A2 l.length c2,.func (.func 56) #[] #[]] [] [.seg b o (arcs l),.seg b2 o2 (arcs l)] λ v H'=>v=.bool true/\H'=[]:=by
 refine aT Tryz.func57 λ w0=>?_;refine ja ?_;refine ak rfl (λ h=>absurd rfl h) (λ h=>ag ?_);refine jn ?_
 refine bP (σ:=Nat) (λ k=>[(17,af k),(16,af l.length),(15,.slice A l.length c),(1,.slice A2 l.length c2),(2,.func (.func 56) #[] #[])]) (λ _=>[.seg b o (arcs l),.seg b2 o2 (arcs l)]) (λ k=>k<=l.length) (λ k=>l.length-k)
  0 [0,1] a7 ab rfl (Nl _) ?_
 intro k hk;refine ao ?_;refine am (ak rfl (λ hlt=>ag ?_) (λ hge=>aO ?_))
 ·have hlt':k<l.length:=by omega
  obtain rfl:=hA (by rintro rfl;simp at hlt');obtain rfl:=hA2 (by rintro rfl;simp at hlt');obtain⟨a,ha⟩:∃ a,l[k]?=some a:=⟨l[k],be hlt'⟩;refine am (aq ?_);refine aI ?_;refine aF (jc rfl hlt') ?_;refine aF (v:=yk a) (aZ 0 rfl rfl (gU ha)) ?_;refine dD λ p8=>?_;refine az ?_;refine dE 0 ?_;refine dQ ?_;refine aF (jc rfl hlt') ?_;refine aF (v:=yk a) (aZ 2 rfl rfl (gU ha)) ?_;refine dD λ p9=>?_;refine nZ ?_;refine mA ?_;refine aF (v:=yk a) (a8 (i:=0) 1 rfl rfl rfl rfl) ?_;refine aF (v:=yk a) (a8 (i:=0) 0 rfl rfl rfl rfl) ?_;refine cj (fst:=[]) (cap:=[]) (HH a) rfl an ?_;refine aN ?_;refine bo rfl (ag ?_);refine ao ?_;refine⟨k+1,[2,3],⟨?_,rfl,rfl,rfl,rfl,an⟩,ab,rfl,aa,aa⟩;refine fy ?_;rw[cp aa];rfl
 exact jS
theorem FH(N:aV)(hl:N.arcs.length<=100000)(A:OA_)(c b o:Nat)(hA:N.arcs≠[]->A=some ⟨b,o,none⟩)(A2:OA_)(c2 b2 o2:Nat)(hA2:N.arcs≠[]->A2=some ⟨b2,o2,none⟩):
 Fn 30 [bZ N A c,bZ N A2 c2] [] [.seg b o (arcs N.arcs),.seg b2 o2 (arcs N.arcs)] λ v H'=>v=.bool true/\H'=[]:=by
 refine aT Tryz.func30 λ w0=>?_;refine bu ?_;refine cY (cs:=bU N A c) λ p1=>?_;refine cY (cs:=bU N A2 c2) λ p2=>?_;refine cR ?_;refine aI ?_;refine aF (a8 (i:=0) (v:=af N.nodes) 1 rfl rfl rfl rfl) ?_;refine az ?_;refine aF (a8 (i:=0) (v:=af N.nodes) 0 rfl rfl rfl rfl) ?_;refine az ?_;refine dt 11 rfl rfl<|bp [5] ?_;refine ae [5] (a8 (i:=1) (v:=af N.src) 1 rfl rfl rfl rfl) rfl<|bp [5] ?_;refine ae [5] (a8 (i:=1) (v:=af N.src) 0 rfl rfl rfl rfl) rfl<|bp [5] ?_;refine dt 18 rfl rfl<|bp [5,12] ?_;refine ae [5,12] (a8 (i:=2) (v:=af N.snk) 1 rfl rfl rfl rfl) rfl<|bp [5,12] ?_;refine ae [5,12] (a8 (i:=2) (v:=af N.snk) 0 rfl rfl rfl rfl) rfl<|bp [5,12] ?_;refine dt 25 rfl rfl<|bp [5,12,19] ?_;refine ae [5,12,19] (a8 (i:=3) (v:=.slice A N.arcs.length c) 1 rfl rfl rfl rfl) rfl<|bp [5,12,19] ?_;refine ae [5,12,19] (a8 (i:=3) (v:=.slice A2 N.arcs.length c2) 0 rfl rfl rfl rfl) rfl<|bp [5,12,19] ?_;refine bA [5,12,19] (Gp N.arcs hl A c b o hA A2 c2 b2 o2 hA2) rfl rfl rfl rfl aX ⟨bz 2 rfl,bz 3 rfl,an⟩ aK<|kD ?_;refine cW [5,12,19] ?_;exact nU
open Lib
theorem DW:nh.Fits:=⟨by unfold nh b7;decide,by unfold nh b7;decide,by unfold nh b7;decide,by unfold nh;decide,λ a ha=>absurd ha Nt⟩
theorem BC:de nh≠0:=λ h=>by
 have:2<=nh.nodes:=(iB h).nodes.1;exact absurd this (by unfold nh;decide)
theorem GM{N:aV}{s:LI_}(h:fm N s)(hR:N.Right):s.length<=500:=sk hR.nodes.2 ⟨h.rise,h.rng⟩
theorem topTotal_fn(V:LibV)(A:OA_)(c b o:Nat)(l:List (LU_))(hA:l≠[]->A=some ⟨b,o,none⟩)(hs:l.length*16<=140737488351232):
 Fn 6 [.slice A l.length c] [] ([.seg b o (cv l)]++V.heap) λ v _=>v=.bool true:=by
 refine aT Tryz.func6 λ w0=>?_;refine La ?_;refine dQ ?_;refine aA 23 (v':=.bool false) rfl rfl<|eq ?_;by_cases hlen:10<l.length
 ·refine dt 27 rfl aa<|fC ?_;exact Br
 refine dc 27 rfl aa<|fC ?_;refine jN ?_;refine bP (σ:=Nat) (λ i=>[(4,af i),(0,.slice A l.length c)]) (λ _=>[.seg b o (cv l)]++V.heap) (λ i=>i<=l.length) (λ i=>l.length-i) 0 [0,1,2,3] a7 ab rfl (Nl _) ?_;intro i hi;refine ao ?_;refine ak rfl (λ hlt=>ag ?_) (λ hge=>aO ?_)
 case refine_2=>
  exact Br
 have hlt:i<l.length:=aa;obtain rfl:=hA (by rintro rfl;simp at hlt);obtain⟨x,hx⟩:∃ x,l[i]?=some x:=⟨l[i],be hlt⟩;refine gK ?_;refine iz ?_;refine aF (v:=dk x) (aZ 0 rfl rfl (eg hx)) ?_;refine aN ?_;by_cases hxl:1500<x.length
 ·refine nd 40 rfl (by rw[cS];omega)<|cq ?_;exact Br
 refine lQ 40 rfl (by rw[cS];omega)<|cq ?_;obtain⟨N,ln,e,hq⟩:∃ N ln e,cN x=(N,ln,e):=⟨_,_,_,rfl⟩;have hperr:=@sF x;have hprt:=@sK x;have PF:=nR V x aa;rw[hq] at hperr hprt PF;simp only at hperr hprt
 have hF:N.Fits:=by
  by_cases h:e=0
  ·exact (hprt h).1.fits'
  ·rw[(hperr h).1];exact DW
 refine iz ?_;refine aF (v:=dk x) (aZ 0 rfl rfl (eg hx)) ?_;refine az ?_;refine eW PF rfl ⟨⟨1,by simp[LibV.heap],rfl⟩,⟨2,by simp[LibV.heap],rfl⟩,⟨3,by simp[LibV.heap],rfl⟩,an⟩ ?_;rintro v H' ⟨A1,c1,rfl,rfl⟩;refine az ?_;refine dD λ p5=>?_;refine nZ ?_;refine fN [(0,ax b o l.length c),(4,af i),(5,ap p5 0),(7,af e)] ([blk p5 33 (bU N A1 c1),.own (.slice A1 N.arcs.length c1) 37 3 N.arcs.length (arcs N.arcs),.seg b o (cv l)]++V.heap) ?_ ?_
 ·by_cases he:e=0
  ·obtain⟨hR,hln⟩:=hprt he;have hln0:(ln:Int)=0:=by have:ln=0:=hln;omega
   refine aI ?_;refine dc 52 rfl (λ h=>h he)<|bp [2,5] ?_;refine bp [2,5,17] ?_;refine dt 70 rfl he<|bp [2,5,17,20] ?_;exact dc 74 rfl (λ h=>h hln0)<|ah (bo rfl (ag ⟨[0,1,2,3,4,5],a7,ab,rfl⟩))
  ·obtain⟨rfl,hl1,hl2⟩:=hperr he;have h1:(1:Int)<=ln:=Int.ofNat_le.2 hl1;have h2:(ln:Int)<=(aB x).length+1:=Int.ofNat_le.2 hl2;have h3:=nK x;refine aI ?_;refine dt 52 rfl he<|eq ?_;refine dc 55 rfl (show ¬ (ln:Int)<1 by omega)<|bp [2,5] ?_;refine ae [2,5] (gq rfl hlt) rfl<|ae [2,5] (v:=dk x) (aZ 2 rfl rfl (eg hx)) rfl<|bA [2,5] (kJ V x aa) rfl rfl rfl rfl aX ⟨⟨3,by simp[LibV.heap],rfl⟩,⟨4,by simp[LibV.heap],rfl⟩,⟨5,by simp[LibV.heap],rfl⟩,an⟩ aK<|?_;rintro v H' ⟨Al,nl,rfl,rfl,rfl⟩;refine dw ?_;refine bp [2,5] ?_;refine dc 67 rfl (show ¬ (ln:Int)>IntKind.i64.wrap (((aB x).length:Int)+1) by rw[cp aa];omega)<|bp [2,5,17] ?_;refine dc 70 rfl he<|bp [2,5,17,20] ?_;exact ah (bo rfl (ag ⟨[1,2,3,4,5,6],a7,ab,rfl⟩))
 refine aR (aH 1 rfl) λ ⟨_,_,hA1,hl1⟩=>?_;obtain⟨g1,hA1⟩:=bg hA1 hl1;have hA1':=e7 hA1;obtain⟨P,hP⟩:∃ P,P=if de N=0 then iu N else []:=⟨_,rfl⟩
 have hPl:P.length<=9999999:=by
  rw[hP];split
  ·have hHl:=yM N hF;have hAl:=yZ N hF N.arcs λ a h=>h;rename_i hz;have:=(iB hz).len;unfold iu;rw[Nj];omega
  ·simp
 have PP:=yW V N hF A1 c1 g1 0 hA1';unfold sn at PP;rw[<- hP] at PP;obtain⟨h,hh⟩:∃ h,h=if de N=0 then (0:Int) else 1:=⟨_,rfl⟩
 rw[<- hh] at PP;refine bu ?_;refine bj (v:=bZ N A1 c1) 0 ?_;refine cj PP rfl ⟨ff 1 rfl hA1,⟨3,by simp[LibV.heap],rfl⟩,⟨4,by simp[LibV.heap],rfl⟩,⟨5,by simp[LibV.heap],rfl⟩,an⟩ ?_;refine aN ?_;obtain⟨N2,ln2,e2,hq2⟩:∃ N ln e,cN P=(N,ln,e):=⟨_,_,_,rfl⟩;have PF2:=nR V P hPl;rw[hq2] at PF2;refine aI ?_;refine eW PF2 rfl ⟨⟨3,by simp[LibV.heap],rfl⟩,⟨4,by simp[LibV.heap],rfl⟩,⟨5,by simp[LibV.heap],rfl⟩,an⟩ ?_;rintro v H' ⟨A2,c2,rfl,rfl⟩;refine az ?_;refine dD λ p10=>?_;refine nZ ?_;refine fN [(0,ax b o l.length c),(4,af i),(5,ap p5 0),(7,af e)] ([blk p5 33 (bU N A1 c1),.own (.slice A1 N.arcs.length c1) 37 3 N.arcs.length (arcs N.arcs),.seg b o (cv l)]++V.heap) ?_ ?_
 ·by_cases he:e=0
  ·have hR:=(hprt he).1;rw[if_pos hR.check] at hh hP;subst hh;rw[hP,nI hR] at hq2;obtain⟨rfl,rfl,rfl⟩:N=N2∧0=ln2∧0=e2:=by simpa using hq2
   refine aR (aH 1 rfl) λ ⟨_,_,hA2,hl2⟩=>?_;obtain⟨g2,hA2⟩:=bg hA2 hl2;refine aI ?_;refine dt 88 rfl he<|eq ?_;refine dc 91 rfl (λ h=>h rfl)<|bp [2,5] ?_;refine dc 95 rfl (λ h=>h rfl)<|bp [2,5,9] ?_;refine ae [2,5,9] (v:=bZ N A1 c1) (ad 2 rfl) rfl<|ae [2,5,9] (v:=bZ N A2 c2) (ad 0 rfl) rfl<|bA [2,5,9] (FH N (by have:=hR.len;omega) A1 c1 g1 0 hA1' A2 c2 g2 0 (e7 hA2)) rfl rfl rfl rfl aX ⟨ff 3 rfl hA1,ff 1 rfl hA2,an⟩ aK<|kD ?_;refine bp [2,5,9] ?_;refine aA 102 (v':=.bool false) rfl rfl<|bp [2,5,9,16] ?_;refine dc 105 rfl (λ h=>h he)<|bp [2,5,9,16,19] ?_;exact ah (bo rfl (ag ⟨[2,3,4,5,6,7],a7,ab,rfl⟩))
  ·obtain⟨rfl,_,_⟩:=hperr he;rw[if_neg BC] at hh;subst hh;refine aI ?_;refine dc 88 rfl he<|bp [2,5,9] ?_;refine bp [2,5,9,16] ?_;refine dt 105 rfl he<|bp [2,5,9,16,19] ?_;exact dc 109 rfl (λ h=>h rfl)<|ah (bo rfl (ag ⟨[2,3,4,5,6,7],a7,ab,rfl⟩))
 refine jN ?_;refine bP (σ:=Nat) (λ j=>[(13,af j),(0,ax b o l.length c),(4,af i),(5,ap p5 0),(7,af e)]) (λ _=>[blk p5 33 (bU N A1 c1),.own (.slice A1 N.arcs.length c1) 37 3 N.arcs.length (arcs N.arcs),.seg b o (cv l)]++V.heap) (λ j=>j<=l.length) (λ j=>l.length-j) 0 [0,1,2,3,4,5] a7 ab rfl (Nl _) ?_;intro j hj;refine ao ?_;refine ak rfl (λ hlt2=>ag ?_) (λ hge2=>aO ?_)
 ·have hlt2:j<l.length:=by omega
  obtain⟨y,hy⟩:∃ y,l[j]?=some y:=⟨l[j],be hlt2⟩;refine gK ?_;by_cases he:e=0
  case neg=>
   refine aI ?_;refine dt 118 rfl he<|eq ?_;refine ah (bF rfl (aO ?_));exact HU
  have hR:=(hprt he).1;refine aI ?_;refine dc 118 rfl (λ h=>h he)<|eq ?_;refine ae [2] (gq rfl hlt2) rfl<|ae [2] (v:=dk y) (aZ 2 rfl rfl (eg hy)) rfl<|eq ?_;by_cases hyl:1500<y.length
  ·refine dt 125 rfl (by rw[cS];omega)<|ah (bF rfl (aO ?_));exact HU
  refine dc 125 rfl (by rw[cS];omega)<|ah (bo rfl (ag ?_));refine cq ?_;refine bM 13 (dT [0,1,2,3,4]++[(5,false)]++dT [6,7,8,9,10,11,12]) [0,2] aX ab rfl<|a9 ?_;refine bh (v:=bZ N A1 c1) rfl (ad 0 rfl) ?_;refine a9 ?_;refine bh rfl (gq rfl hlt2) ?_;refine bh (v:=dk y) rfl (aZ 1 rfl rfl (eg hy)) ?_;refine cz ?_;refine dG (Ex V N hF hR A1 c1 g1 0 hA1' y aa) rfl ⟨ff 1 rfl hA1,⟨3,by simp[LibV.heap],rfl⟩,⟨4,by simp[LibV.heap],rfl⟩,⟨5,by simp[LibV.heap],rfl⟩,an⟩ ?_;rintro v H' (⟨f,s,Af,As,cf,cs,hrep,rfl,rfl⟩|⟨_,rfl,rfl⟩)
  ·obtain⟨_,hf,hs',hy'⟩:=hrep;have hfl:=hf.len;have hl2:=hR.len;have hfi:=aD.inB hR hf.toRanged;have hsi:∀ x∈s,b7 x:=fun x hx=>by have:=hs'.rng x hx;have:=hR.nodes;unfold b7;omega
   have hsl:=GM hs' hR;refine⟨rfl,b6 [2,4] ?_⟩;refine a9 ?_;refine cM (ah ?_);refine aR (aH 0 rfl) λ ⟨_,_,hAf,hlf⟩=>?_;obtain⟨gf,hAf⟩:=bg hAf hlf;refine aR (aH 1 rfl) λ ⟨_,_,hAs,hls⟩=>?_;obtain⟨gs,hAs⟩:=bg hAs hls;refine bu ?_;refine bj (v:=bZ N A1 c1) 2 ?_;refine az ?_;refine cj (oL V N hF hR A1 c1 g1 0 hA1' f hfi aa Af cf gf 0 (dx hAf) s hsi aa As cs gs 0 (dx hAs)) rfl ⟨ff 3 rfl hA1,ff 0 rfl hAf,ff 1 rfl hAs,⟨5,by simp[LibV.heap],rfl⟩,⟨6,by simp[LibV.heap],rfl⟩,⟨7,by simp[LibV.heap],rfl⟩,an⟩ ?_;rw[show n8 N f s=.tuple #[dk y,af 0] by unfold n8;rw[if_pos hf,if_pos hs',hy']];refine dQ ?_;refine dt 145 rfl rfl<|eq ?_;refine dc 148 rfl (λ h=>h rfl)<|bp [2,5] ?_;refine ae [2,5] (gq rfl hlt2) rfl<|ae [2,5] (v:=dk y) (aZ 4 rfl rfl (eg hy)) rfl<|bp [2,5] ?_;refine aA 156 (v':=.bool false) rfl (Na Value.bool ai)<|ah (bo rfl (ag ?_));refine ao ?_;exact⟨j+1,[2,3,4,5,6,7],⟨Na (λ z=>some (af z)) (cp aa),rfl,rfl,rfl,rfl,an⟩,ab,rfl,aa,aa⟩
  ·refine⟨rfl,b6 [0,2] ?_⟩;refine a9 ?_;refine cM (ah ?_)
   obtain⟨a1,a2,haa⟩:∃ (a1:LU_) (a2:Int),n8 N [] []=.tuple #[dk a1,af a2]:=by
    unfold n8;split
    ·split
     ·exact⟨_,_,rfl⟩
     ·exact⟨_,_,rfl⟩
    ·exact⟨_,_,rfl⟩
   refine bu ?_;refine bj (v:=bZ N A1 c1) 0 ?_;refine az ?_;refine cj (oL V N hF hR A1 c1 g1 0 hA1' [] (λ _ h=>absurd h Nt) ab none 0 0 0 (λ h=>absurd rfl h) [] (λ _ h=>absurd h Nt) ab none 0 0 0 (λ h=>absurd rfl h)) rfl ⟨ff 1 rfl hA1,fX 0 rfl fE (.inl rfl),fX 0 rfl fE (.inl rfl),⟨3,by simp[LibV.heap],rfl⟩,⟨4,by simp[LibV.heap],rfl⟩,⟨5,by simp[LibV.heap],rfl⟩,an⟩ ?_;rw[haa];refine dQ ?_;refine dc 145 rfl ab<|bp [2,5] ?_;refine ah (bo rfl (ag ?_));exact HU
 refine LG ?_;refine eW (Kn V x aa (λ _ _ y hy=>by have:=pZ x y hy;omega)) rfl ⟨⟨3,by simp[LibV.heap],rfl⟩,⟨4,by simp[LibV.heap],rfl⟩,⟨5,by simp[LibV.heap],rfl⟩,an⟩ ?_;rintro v H' ⟨r,hr,hrl,rfl,rfl⟩;refine aN ?_;refine fN [(171,.bool false),(0,ax b o l.length c),(4,af i)] ([.seg b o (cv l)]++V.heap) ?_ ?_
 ·rcases hr with rfl|⟨m,rfl⟩
  ·refine aI ?_;refine aA 164 (v':=.bool false) rfl (Na Value.bool ai)<|eq ?_;exact ah ⟨[2,3,4,5],a7,ab,rfl⟩
  ·rw[Nj,NU] at hrl;refine aI ?_;refine aA 164 (v':=.bool true) rfl (Na Value.bool ai)<|eq ?_;refine aA 168 (v':=af (m.length:Int)) rfl (Na (Value.int .i64) (by rw[cS,Nj,NU,cp aa];omega))<|ae [2] (tx (i:=m.length) (b:=10) rfl rfl rfl rfl ai) rfl<|eq ?_;exact ah ⟨[2,3,4,5],⟨Na (λ z=>some (Value.bool z)) (aU ab),rfl,rfl,an⟩,ab,rfl⟩
 refine bo rfl (ag ?_);refine ao ?_;exact⟨i+1,[0,1,2,3],⟨Na (λ z=>some (af z)) (cp aa),rfl,an⟩,ab,rfl,aa,aa⟩
def lu(w:World):Heap->Prop
 |[]=>True
 |.seg b o vs::S=>(aY.seg b o vs).holds w/\lu w S
 |.tab b o::S=>(aY.tab b o).holds w/\lu w S
 |_=>False
theorem lu.spec{w:World}:∀ {S:Heap},lu w S->∀ c∈S,c.holds w/\c.mine=none
 |[],_,c,hc=>by cases hc
 |.seg b o vs::S,h,c,hc=>by
  rcases Nn.1 hc with rfl|hc
  ·exact⟨h.1,rfl⟩
  ·exact lu.spec h.2 c hc
 |.tab b o::S,h,c,hc=>by
  rcases Nn.1 hc with rfl|hc
  ·exact⟨h.1,rfl⟩
  ·exact lu.spec h.2 c hc
 |.obj ..::_,h,_,_=>h.elim
 |.own ..::_,h,_,_=>h.elim
theorem lu.has{w:World}{S:Heap}(h:lu w S):dN w [] w S:=by
 refine⟨rfl,rfl,rfl,Nr _,λ _ _ _=>rfl,λ c hc=>(h.spec c hc).1,λ c hc b hb=>(by rw[(h.spec c hc).2] at hb;simp at hb),?_⟩;rw[N9];intro i j hi hj _;have h1:=(h.spec _ (Oz hi)).2;have h2:=(h.spec _ (Oz hj)).2;exact⟨λ b hb=>by rw[h1] at hb;simp at hb,λ b hb=>by rw[h2] at hb;simp at hb⟩
theorem Fn.row{f:FuncId}{args:LV_}{S:Heap}(h:Fn f args [] S (λ v _=>v=.bool true))(w:World)(hS:lu w S):
 Calls Tryz.prog f args.toArray w λ e w'=>e=.returned (.bool true)/\Below w.heap.size w w':=by
 refine (h w hS.has).mono ?_;rintro e w' ⟨v,H',he,hH,hv⟩;rw[he,hv];exact⟨rfl,⟨hH.os,hH.tape,hH.output,hH.size,λ k hk=>hH.keep k hk ai⟩⟩
open Go.RowKit Go.ChangeShapes Go.WideShapes Go.Deep Go.Joins
section
variable {H:Type} {enc:TypeId×Value->H} {P:Program} {w:World} {base:Nat} {spare:Nat->Bool} {held:Bool}
theorem sized_of{ts:List TypeId}{ds:List (DataW H)}(h:(DataW.weightsEach P ts ds).all (·<=reachBytes)=true){j:Nat}{t:TypeId}{d:DataW H}(ht:ts[j]?=some t)(hd:ds[j]?=some d):∀ n∈d.weights P t,n<=reachBytes:=λ n hn=>by
 have:=PM.1 h n (DataW.weights_mem_each ht hd n hn)
 simpa using this
theorem CP{a:Addr}{v:Value}(h:w.cell? a=some v):a=⟨a.block,a.off,none⟩:=by
 unfold World.cell? at h;obtain⟨b,o,s⟩:=a
 cases s with
 |none=>rfl
 |some q=>revert h;simp only[Option.isSome];split<;>simp
theorem Lw(b o i:Nat):(⟨b,o,none⟩:Addr).add i=⟨b,o+i,none⟩:=by
 unfold Addr.add;split
 ·rename_i h;subst h;rfl
 ·rfl
end
open Go.RowKit Go.ChangeShapes Go.WideShapes Go.Deep Go.Joins
section
variable {H:Type} {enc:TypeId×Value->H} {P:Program} {w:World} {base:Nat} {spare:Nat->Bool} {held:Bool}
theorem opn_strs{r:Reach}{b0:Nat}{t e:TypeId}{v:Value}{d:DataW H}{p:List MemPlace}(ht:P.underlying t=some (.slice e))(he:P.underlying e=some .string)(hC:P.cellsOf e=1)(hB:P.bytesOf e=16)(hok:Value.okWide P w r b0 t v)
 (h:DataW.Trod enc P w base spare held t v d p) (hz:∀ n∈d.weights P t,n<=reachBytes):
 ∃ (A:OA_) (c b o:Nat) (l:List (LU_)),v=.slice A l.length c/\(l≠[]->A=some ⟨b,o,none⟩)/\(aY.seg b o (Proofs.YtmcnpaelaieniaaGreatDoor.cv l)).holds w/\l.length*16<=140737488351232:=by
 obtain⟨a,n,c,rfl⟩:=okWide_slice ht hok;obtain⟨fuel,hf⟩:=h
 rcases open_strings ht he hC hf with ⟨hcs,_⟩|⟨a',len,cap,ss,hcs,_,hl,_,hlz,hx,hcell,_⟩
 ·refine⟨none,0,0,0,[],by simpa [Value.cells] using hcs,λ h=>absurd rfl h,λ i v hv=>by simp[Proofs.YtmcnpaelaieniaaGreatDoor.cv] at hv,ai⟩
 ·have hle:len≤ss.length:=by rw[hlz];split;· exact hl
                             ·exact Nr _
  have hlen:(ss.take len).length=len:=by rw[NE];omega
  refine⟨some a',cap,a'.block,a'.off,(ss.take len).map (·.data.toList),?_,λ hne=>?_,λ i v hv=>?_,?_⟩
  ·rw[Nm,hlen];simpa [Value.cells] using hcs
  ·have hpos:0<len:=by
    rcases Pa len with h0|h0
    ·exact absurd (by rw[h0];rfl) hne
    ·exact h0
   have:=hcell 0 aa;exact Na some (CP (a:=a') (by simpa [Addr.add] using this))
  ·simp only[Proofs.YtmcnpaelaieniaaGreatDoor.cv,List.map_map,List.getElem?_map,Option.map_eq_some_iff] at hv;obtain⟨s,hs,rfl⟩:=hv;have hi:i<len:=by have:=(List.getElem?_eq_some_iff.1 hs).1;omega
   have hs':ss[i]?=some s:=by rw[P3] at hs;simpa [hi] using hs
   have h0:=hcell 0 aa;have ea:=CP (a:=a') (by simpa [Addr.add] using h0);have:=hcell i aa;rw[ea,Lw] at this;rw[this];simp[List.getD,hs',uD]
  ·rw[Nm,hlen];have hd:d=.slice (Go.ChangeShapes.strs (ss.take len)) (Go.ChangeShapes.strs (ss.drop len)):=Na Prod.fst hx;subst hd
   have hw:=hz (len*16+(ss.length-len)*16) (by
    simp only[DataW.weights,ht,hB,Go.ChangeShapes.strs,Nm,NE,Oe,Nn]
    left
    rw[OX hle,OQ])
   have:reachBytes=140737488351232:=ab;omega
end
open Go.RowKit Go.ChangeShapes
def laidL:List (String×DataW Unit):=[("math/bits.deBruijn32tab",Rows.laid_math_bits_deBruijn32tab),("math/bits.deBruijn64tab",Rows.laid_math_bits_deBruijn64tab),("internal/strconv.uint64pow10",Rows.laid_internal_strconv_uint64pow10),("unicode/utf8.acceptRanges",Rows.laid_unicode_utf8_acceptRanges),("strconv.ErrRange",Rows.laid_strconv_ErrRange),("strconv.ErrSyntax",Rows.laid_strconv_ErrSyntax),("unicode/utf8.first",Rows.laid_unicode_utf8_first)]
theorem wa{W:World}{n:String}{g:Nat}{cs:Array Value}(hg:Tryz.prog.globalNamed n=some g)(h:W.var? Tryz.prog n=some cs):∃ t k,W.heap[g]?=some (.cells cs t k):=by
 unfold World.var? at h;rw[hg] at h;simp only[Option.bind_some] at h;split at h
 ·rename_i c t k he;obtain rfl:=NK h;exact⟨_,_,he⟩
 ·cases h
theorem libV_of{W:World}(h:laidMetH Tryz.prog laidL W)(hsh:W.ShapedOpen Tryz.prog):∃ V:LibV,lu W V.heap:=by
 rw[MakeChecks.laidMetH_plain _ _ _ aX] at h;obtain⟨m,hm⟩:=Tryz.laysM146.s1_3 W hsh;have gM:Tryz.prog.globalNamed "internal/bytealg.MaxLen" =some 0:=by kernel_rfl
 have gP:Tryz.prog.globalNamed "internal/strconv.uint64pow10" =some 3:=by kernel_rfl
 have gE:Tryz.prog.globalNamed "strconv.ErrRange" =some 5:=by kernel_rfl
 obtain⟨g1,t1,cs1,f1,p1,hg1,ht1,hv1,hd1⟩:=Lib.laidMet.reads h (n:= "internal/strconv.uint64pow10") (d:=Rows.laid_internal_strconv_uint64pow10) (by simp[laidL]);obtain⟨g2,t2,cs2,f2,p2,hg2,ht2,hv2,hd2⟩:=Lib.laidMet.reads h (n:= "strconv.ErrRange") (d:=Rows.laid_strconv_ErrRange) (by simp[laidL]);obtain rfl:=NK (gP.symm.trans hg1);obtain rfl:=NK (gE.symm.trans hg2);have tP:(Tryz.prog.globals[3]?).map (·.type)=some 264:=by kernel_rfl
 have tE:(Tryz.prog.globals[5]?).map (·.type)=some 118:=by kernel_rfl
 obtain rfl:=NK (tP.symm.trans ht1);obtain rfl:=NK (tE.symm.trans ht2);have c1:=Lib.cells_of_tab (k:=.u64) (zs:=Lib.pow10Tab) Tryz.underlying264 Tryz.underlying151 aX aX hd1;obtain⟨f3,u,v,c2,_,_⟩:=iface_of_trod Tryz.underlying118 hd2;obtain⟨tp1,k1,b1⟩:=wa gP hv1;obtain⟨tp2,k2,b2⟩:=wa gE hv2
 have b0:∃ cs t k,W.heap[0]?=some (.cells cs t k)/\cs[0]?=some (af m):=by
  have hm':W.cell? ⟨0,0,none⟩=some (af m):=hm;unfold World.cell? at hm';simp only[Option.isSome_none,P4,PJ] at hm';split at hm'
  ·rename_i cs t k he;exact⟨_,_,_,he,hm'⟩
  all_goals cases hm'
 obtain⟨cs0,t0,k0,h0,e0⟩:=b0;refine⟨⟨.cells cs0 t0 k0,.cells cs1 tp1 k1,.cells cs2 tp2 k2,m,u,v,⟨_,_,_,rfl,e0⟩,⟨tp1,k1,?_⟩,⟨tp2,k2,?_⟩⟩,⟨h0,b1,b2,an⟩⟩
 ·rw[<- c1]
 ·obtain⟨l2⟩:=cs2;have:l2=[.iface u v]:=c2;rw[this]
section
variable {H:Type} {enc:TypeId×Value->H}
theorem returns_card{a:Assume}{C:Checked}{os:Os}{f:FuncId}{fn:Func}{s:ChangeSpec}{conds:List PathCond}{apart fresh handsOn again:Bool}{X:World->Array Value->Prop}
 (hX:∀ (w w':World) (args:Array Value),w.heap=w'.heap->X w args->X w' args)
 (own:ownKnob C.prog.godebug=none) (started:os.Started) (noInit:C.prog.inits.idxOf? f=none) (hfn:C.prog.funcs[f]?=some fn)
 (witness:∃ (w:World) (tape:Tape) (i:Input),w.os=os/\(w.forCall tape i).Shaped C.prog/\i.vars=[]/\Input.okWide C.prog (w.forCall tape i) .any w.heap.size f i/\
  ((s.pre enc C.prog fn conds apart (w.forCall tape i).memory i.args/\X (w.forCall tape i).memory i.args)/\sizedMet enc C.prog fn (OpenSpec.ofChange s) apart (w.forCall tape i).memory i.args)/\a.holds C.prog (lone (Frame.enter C.prog f i.args .normal) [] (w.forCall tape i)))
 (contract:∀ (W:World) (base:Nat) (args:Array Value) (ds gs:List (DataW H)) (before:List MemPlace),
  (∀ (j:Nat) t v,fn.params[j]?=some t->args[j]?=some v->Value.okWide C.prog W .any base t v)->
  DataW.Whole enc C.prog fn.params.toList s.vars apart W args.toList ds gs before->
  conds.all (PathCond.test C.prog ⟨fn.params.toList,ds,s.plain.varTypes C.prog,gs⟩)=true->
  (DataW.weightsEach C.prog (fn.params.toList++s.plain.varTypes C.prog) (ds++gs)).all (·<=reachBytes)=true->X W args->W.ShapedOpen C.prog->
  a.holds C.prog (lone (Frame.enter C.prog f args .normal) [] W)->
  Calls C.prog f args W λ e W'=>∃ v,e=.returned v/\s.post enc C.prog fn apart fresh handsOn again W args v W'):
 ReturnsInHanded a C os f .any (λ w args=>(s.pre enc C.prog fn conds apart w args/\X w args)/\sizedMet enc C.prog fn (OpenSpec.ofChange s) apart w args) (s.post enc C.prog fn apart fresh handsOn again):=by
 refine returnsInHanded_of_calls own started noInit witness ?_;intro w tape i _ hsh _ hok hpre hholds;obtain⟨_,_,_,fn',hfn',_,_,_,_,hval⟩:=hok;have e:fn'=fn:=NK (hfn'.symm.trans hfn);subst e;obtain⟨⟨⟨ds,gs,before,hw,hc⟩,hx⟩,hz⟩:=hpre;have hw':=DataW.Whole.of_heap (w':=w.forCall tape i) (by rfl) hw;refine (contract (w.forCall tape i) w.heap.size i.args ds gs before hval hw' hc (hz.weights hw) (hX _ _ _ (by rfl) hx) hsh hholds).mono λ e W' ⟨v,he,hp⟩=>?_;subst he;exact ChangeSpec.post_blind hp
end
end Go.Proofs.YtmcnpaelaieniaaGreatDoor
