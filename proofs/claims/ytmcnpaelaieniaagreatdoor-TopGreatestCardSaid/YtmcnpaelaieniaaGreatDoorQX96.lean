import Derived.Test.YtmcnpaelaieniaaGreatDoorQX84
import Derived.Test.YtmcnpaelaieniaaGreatDoorQB
import Derived.Test.YtmcnpaelaieniaaGreatDoorQA
import Derived.Test.YtmcnpaelaieniaaGreatDoorQE
import Derived.Test.YtmcnpaelaieniaaGreatDoorQX73
import Derived.Test.YtmcnpaelaieniaaGreatDoorQX108
/- A part of the proof; see NOTES.md. -/
set_option linter.unusedVariables false
set_option linter.unusedSimpArgs false
namespace Go.Proofs.YtmcnpaelaieniaaGreatDoor
open Go.RowKit
theorem vi{X:Cx}{E:Env}{H:Heap}{o:Oper}{t n e s by_ s1 by':Nat}{z:Value}{z':Option Value}{uk:UK}{fs:List (Nat×Nat×Nat)}{zs cs:LV_}{ps:Array (Nat×Operand)}{vs:List (Nat×Value)}(ho:o.op=.build t ps)(ht:tab t=some ⟨.arr n e,s,by_,some z⟩)(he:tab e=some ⟨uk,s1,by',z'⟩)(hz:z.cells=zs.toArray)
 (hfs:∀ i off sz ag,fs[i]?=some (off,sz,ag)->off=i*s1/\sz=s1) (hp:oz E ps.toList=some vs) (hb:nH fs zs vs=some cs):gz X o E H (.agg cs.toArray):=by
 intro a w hA hH;obtain⟨j,hi,hjz,_,_⟩:=ir ht
 have hu:Tryz.prog.underlying t=some (.array n e):=by
  obtain⟨d,j,hd,_,hu,_⟩:=dJ ht;rw[hd];cases d<;>simp[mt] at hu ⊢;exact hu
 have e1:=hA.valsP _ _ hp;have e2:(ps.map λ (i,x)=>(i,a.eval x)).toList=vs:=by rw[<- e1];simp
 have hfill:=lZ (pl:=λ i=>some (i*s1,s1)) (λ i off sz ag h=>by obtain⟨h1,h2⟩:=hfs i off sz ag h;rw[h1,h2]) vs zs cs hb;have hsz:(sizeOf e).run Tryz.prog w=.ok s1 w:=da he w
 have hrun:(Instr.build t (ps.map λ (i,x)=>(i,a.eval x))).run Tryz.prog w=.ok (.agg cs.toArray) w:=by
  unfold Instr.build;rw[e2];have hz1:(zeroValue t).run Tryz.prog w=.ok z w:=by simp[zeroValue,typeInfo,hi,hjz]
  simp only[Sem.run_bind,hz1,run_underlying hu,Result.andThen_ok,hsz,hz];rw[hfill];rfl
 have hrun':(Instr.build t (ps.map λ x=>match x with|(i,x)=>(i,a.eval x))).run Tryz.prog w=.ok (.agg cs.toArray) w:=hrun;simp[execOp,ho,hrun']
theorem EA{n:Nat}(h:n<18446744073709551616):IntKind.u64.wrap (n:Int)=n:=by rw[IntKind.wrap_u64];omega
theorem BO{n:Nat}(h:n<4294967296):IntKind.u64.wrap (((BitVec.ofInt IntKind.u64.bits (n:Int)&&& BitVec.ofInt IntKind.u64.bits 4294967295).toNat:Nat):Int)=n:=by
 have h1:(BitVec.ofInt IntKind.u64.bits (n:Int)).toNat=n:=by
  show (BitVec.ofInt 64 (n:Int)).toNat=n;rw[BitVec.toNat_ofInt];omega
 have h2:(BitVec.ofInt IntKind.u64.bits 4294967295).toNat=4294967295:=by decide
 rw[BitVec.toNat_and,h1,h2,show (4294967295:Nat)=2^32-1 by decide,Nat.and_two_pow_sub_one_eq_mod,EA (by omega)];omega
theorem uu{n:Nat}(h:n<4294967296):((n:Int)).fdiv (2^(min 32 IntKind.u64.bits))=0:=by
 show ((n:Int)).fdiv 4294967296=0;rw[IW _ (by omega)];omega
theorem Cq(n:Nat)(hn:n<4294967296):Fn 260 [.int .u64 ((1:Nat):Int),.int .u64 (n:Int)] [] [] λ v H'=>v=.tuple #[.int .u64 ((0:Nat):Int),.int .u64 (n:Int)]/\H'=[]:=by
 refine aJ Tryz.func260 rfl rfl λ w0=>?_;refine ad (aa (ae [] rfl ?_));refine ad (aa (ae [] rfl ?_));refine a7 6 (v':=.int .u64 ((1:Nat):Int)) rfl (Gt (Value.int .u64) (BO (by decide))) ?_;refine ad (aa (ae [] rfl ?_));refine a7 7 (v':=.int .u64 ((0:Nat):Int)) rfl (Gt (Value.int .u64) (uu (n:=1) (by decide))) ?_;refine ad (aa (ae [] rfl ?_));refine a7 8 (v':=.int .u64 (n:Int)) rfl (Gt (Value.int .u64) (BO hn)) ?_;refine ad (aa (ae [] rfl ?_));refine a7 9 (v':=.int .u64 ((0:Nat):Int)) rfl (Gt (Value.int .u64) (uu hn)) ?_;refine ad (aa (ae [] rfl ?_));refine a7 10 (v':=.int .u64 (n:Int)) rfl (Gt (Value.int .u64) ((Gt _ (Int.one_mul _)).trans (EA (by omega)))) ?_;refine ad (aa (ae [] rfl ?_))
 refine a7 11 (v':=.int .u64 ((0:Nat):Int)) rfl (Gt (Value.int .u64) (by
  show IntKind.u64.wrap (IntKind.u64.wrap (0*(n:Int))+((n:Int)).fdiv (2^(min 32 IntKind.u64.bits)))=0;rw[Int.zero_mul,uu hn];decide)) ?_
 refine ad (aa (ae [] rfl ?_));refine a7 12 (v':=.int .u64 ((0:Nat):Int)) rfl (Gt (Value.int .u64) (BO (n:=0) (by decide))) ?_;refine ad (aa (ae [] rfl ?_));refine a7 13 (v':=.int .u64 ((0:Nat):Int)) rfl (Gt (Value.int .u64) (uu (n:=0) (by decide))) ?_;refine ad (aa (ae [] rfl ?_))
 refine a7 12 (v':=.int .u64 ((0:Nat):Int)) rfl (Gt (Value.int .u64) (by
  show IntKind.u64.wrap (0+IntKind.u64.wrap (1*0))=0
  decide)) ?_
 refine ad (aa (ae [] rfl ?_))
 refine a7 4 (v':=.int .u64 ((0:Nat):Int)) rfl (Gt (Value.int .u64) (by
  show IntKind.u64.wrap (IntKind.u64.wrap (IntKind.u64.wrap (0*0)+0)+((0:Nat):Int).fdiv (2^(min 32 IntKind.u64.bits)))=0;rw[uu (n:=0) (by decide)];decide)) ?_
 refine ad (aa (ae [] rfl ?_));refine a7 5 (v':=.int .u64 (n:Int)) rfl (Gt (Value.int .u64) ((Gt _ (Int.one_mul _)).trans (EA (by omega)))) ?_;exact ay ⟨_,rfl,rfl,rfl⟩
theorem w8(n:Nat)(hn:n<4294967296):Fn 248 [.int .u64 ((1:Nat):Int),.int .u64 (n:Int)] [] [] λ v H'=>v=.tuple #[.int .u64 ((0:Nat):Int),.int .u64 (n:Int)]/\H'=[]:=by
 refine aJ Tryz.func248 rfl rfl λ w0=>?_;refine ad (aa (ae [] rfl ?_));refine ad ?_;refine bG rfl ?_;refine aq (ad (aa (ah [] rfl ?_)));refine ap [] (Cq n hn) rfl (by kernel_rfl) an (λ _=>rfl) ?_;rintro v H' ⟨rfl,rfl⟩;refine⟨rfl,?_⟩;refine ae [] rfl ?_;refine ad (aa (ae [] rfl ?_));exact ay ⟨_,rfl,rfl,rfl⟩
def jo(k N:Nat)(v z:Value):LV_:=List.replicate k v++List.replicate (N-k) z
theorem iW{k N:Nat}{v z:Value}(h:k<=N):(jo k N v z).length=N:=by simp[jo];omega
theorem sT{k m N:Nat}{v z:Value}(h:k+m<=N):wr (jo k N v z) k (List.replicate m v)=jo (k+m) N v z:=by
 induction m generalizing k with
 |zero=>rfl
 |succ m ih=>
  rw[Hw];show wr ((jo k N v z).set k v) (k+1) (List.replicate m v)=_
  have:(jo k N v z).set k v=jo (k+1) N v z:=by
   unfold jo;rw[HJ _ _ (by simp),GU,HC,show N-k=(N-(k+1))+1 by omega,Hw,HU,List.replicate_succ'];simp
  rw[this,ih (by omega),show k+1+m=k+(m+1) by omega]
set_option maxHeartbeats 1000000 in
theorem CM(x:Int)(g c n:Nat)(h1:1<=n)(hn:n<=100000):
 Fn 247 [.slice (some ⟨g,0,none⟩) 1 c,.int .i64 (n:Int)] [] [.seg g 0 (ax [x])] λ v H'=>∃ g',v=.slice (some ⟨g',0,none⟩) n n/\H'=[.own (.slice (some ⟨g',0,none⟩) n n) 3 1 n (ax (List.replicate n x))]:=by
 refine aJ Tryz.func247 rfl rfl λ w0=>?_;refine ad (aa (ae [] rfl ?_));refine ad (ad (aa (ae [] rfl ?_)));refine aC rfl (λ h=>absurd h (by omega)) (λ _=>aq ?_);refine ad (aa ?_);refine am (gs:=[999]) rfl ?_;refine am (gs:=[999]) rfl ?_;refine am (gs:=[999]) rfl ?_;refine aI 15 (v':=.int .u64 ((1:Nat):Int)) rfl (Gt (Value.int .u64) (EA (n:=1) (by decide))) ?_;refine am (gs:=[999]) rfl ?_;refine am (gs:=[999]) rfl ?_;refine aI 17 (v':=.int .u64 (n:Int)) rfl (Gt (Value.int .u64) (EA (by omega))) ?_;refine ap [] (w8 n (by omega)) rfl (by kernel_rfl) an (λ _=>rfl) ?_;rintro v H' ⟨rfl,rfl⟩;refine⟨rfl,?_⟩;refine ae [] rfl ?_;refine ad (ad (aa ?_));refine am (gs:=[999]) rfl ?_;refine am (gs:=[999]) rfl ?_;refine am (gs:=[999]) rfl ?_;refine aX 23 rfl (by decide) ?_;refine ah [2] rfl ?_;refine ae [] rfl ?_;refine aC rfl (λ h=>absurd h (by omega)) (λ _=>aq ?_);refine ad (aa ?_);refine am (gs:=[999]) rfl ?_;refine am (gs:=[999]) rfl ?_;refine aI 29 (v':=.int .i64 (n:Int)) rfl (Gt (Value.int .i64) (cv (by omega))) ?_;refine cX (n:=n) (c:=n) rfl rfl rfl rfl rfl rfl (GF _) (by omega) (by omega) (λ _=>rfl) λ g'=>?_;have hmk:made [Value.int .i64 0] (n*1)=jo 0 n (.int .i64 x) (.int .i64 0):=by rw[dh,G8];simp[jo]
 rw[hmk];refine ae [] rfl ?_;refine ad (aa ?_);refine am (gs:=[999]) rfl ?_;refine am (gs:=[999]) rfl ?_;refine pj (i:=0) (vs:=List.replicate 1 (.int .i64 x)) 0 1 rfl rfl rfl rfl rfl (ak _ _ _) rfl rfl (by show 1=Nat.min 1 n;exact (H9 h1).symm) rfl (by rw[iW (GB _),GU];omega) [] rfl ?_;rw[sT (by omega)];refine ae [] rfl ?_;refine ad (au ?_);refine bO (σ:=Nat) (λ k=>[(8,.int .i64 (k:Int)),(7,.slice (some ⟨g',0,none⟩) n n)]) (λ k=>[.own (.slice (some ⟨g',0,none⟩) n n) 3 1 n (jo k n (.int .i64 x) (.int .i64 0))]) (λ k=>1<=k/\k<=n) (λ k=>n-k) 1 [0] ⟨rfl,rfl,an⟩ (by decide) rfl ⟨GF _,h1⟩ ?_;rintro k ⟨hk1,hk2⟩;refine ad (ad (aa (ae [] rfl ?_)));refine aC rfl (λ hlt=>aq ?_) (λ hge=>bc ?_)
 ·have hkn:k<n:=by omega
  obtain⟨m,hm⟩:∃ m,m=min k (n-k):=⟨_,rfl⟩;refine au ?_;refine bu 10 (cZ [0,1,2,3,4,5,6]++[(7,false)]++cZ [8,9]) [] (by kernel_rfl) (by decide) rfl ?_;refine bB (gs:=[999]) rfl rfl ?_;refine bB (gs:=[999]) rfl rfl ?_;refine bB (gs:=[999]) rfl rfl ?_;refine aj [999] rfl (dE (i:=k) rfl rfl rfl rfl rfl hk2) rfl ?_;refine eg 41 (v':=.slice (some ⟨g',k,none⟩) (n-k) (n-k)) rfl ?_ ?_
  ·have:=fT (A:=some ⟨g',0,none⟩) (c:=n) (l:=k) (n:=n) (sz:=1) (b:=g') (o:=0) (λ _=>rfl) (GF _) hkn;rw[G8,GZ] at this;show Value.slice (gj _ _ _ 1) _ _=_;rw[this]
  refine bB (gs:=[999]) rfl rfl ?_;refine bB (gs:=[999]) rfl rfl ?_;refine aj [999] rfl (gF (i:=k) rfl rfl rfl rfl rfl hk2) rfl ?_;refine bg rfl ?_;refine pj (i:=k) (vs:=List.replicate m (.int .i64 x)) 0 0 rfl rfl rfl rfl rfl (λ w hw i v hi=>cp w hw i v (?_)) rfl rfl (by rw[GU];exact hm) (?_) (by rw[iW hk2,GU];omega) [] rfl ?_
  ·have h2:=(Gv.1 hi).1;rw[GU] at h2;rw[GN,if_pos h2] at hi;unfold jo;rw[Hi (by rw[GU];omega),GN,if_pos (by omega)];exact hi
  ·clear hm
   induction m with
   |zero=>rfl
   |succ m ih=>rw[Hw];exact ih
  rw[sT (by omega),GU];refine ai ⟨⟨[],by decide,rfl⟩,?_⟩;refine bB (gs:=[999]) rfl rfl ?_;refine bB (gs:=[999]) rfl rfl ?_;refine bq ?_;refine ai ?_;refine⟨k+m,[0],⟨?_,rfl,an⟩,by decide,rfl,⟨by omega,by omega⟩,by omega⟩;show some (Value.int .i64 (IntKind.i64.wrap ((k:Int)+(m:Int))))=_;rw[cv (by omega)];rfl
 ·obtain rfl:k=n:=by omega
  refine ad (aa (ae [] rfl ?_));refine ay ⟨_,rfl,g',rfl,?_⟩;rw[show jo k k (.int .i64 x) (.int .i64 0)=ax (List.replicate k x) by simp[jo,ax]]
set_option maxHeartbeats 1000000 in
theorem CK(x:Int)(g c n:Nat)(h1:1<=n)(hn:n<=100000):
 Fn 239 [.slice (some ⟨g,0,none⟩) 1 c,.int .i64 (n:Int)] [] [.seg g 0 (ax [x])] λ v H'=>∃ g',v=.slice (some ⟨g',0,none⟩) n n/\H'=[.own (.slice (some ⟨g',0,none⟩) n n) 2 1 n (ax (List.replicate n x))]:=by
 refine aJ Tryz.func239 rfl rfl λ w0=>?_;refine ad (aa (ae [] rfl ?_));refine ad (ad (aa (ae [] rfl ?_)));refine aC rfl (λ h=>absurd h (by omega)) (λ _=>aq ?_);refine ad (aa ?_);refine am (gs:=[999]) rfl ?_;refine am (gs:=[999]) rfl ?_;refine am (gs:=[999]) rfl ?_;refine aI 15 (v':=.int .u64 ((1:Nat):Int)) rfl (Gt (Value.int .u64) (EA (n:=1) (by decide))) ?_;refine am (gs:=[999]) rfl ?_;refine am (gs:=[999]) rfl ?_;refine aI 17 (v':=.int .u64 (n:Int)) rfl (Gt (Value.int .u64) (EA (by omega))) ?_;refine ap [] (w8 n (by omega)) rfl (by kernel_rfl) an (λ _=>rfl) ?_;rintro v H' ⟨rfl,rfl⟩;refine⟨rfl,?_⟩;refine ae [] rfl ?_;refine ad (ad (aa ?_));refine am (gs:=[999]) rfl ?_;refine am (gs:=[999]) rfl ?_;refine am (gs:=[999]) rfl ?_;refine aX 23 rfl (by decide) ?_;refine ah [2] rfl ?_;refine ae [] rfl ?_;refine aC rfl (λ h=>absurd h (by omega)) (λ _=>aq ?_);refine ad (aa ?_);refine am (gs:=[999]) rfl ?_;refine am (gs:=[999]) rfl ?_;refine aI 29 (v':=.int .i64 (n:Int)) rfl (Gt (Value.int .i64) (cv (by omega))) ?_;refine cX (n:=n) (c:=n) rfl rfl rfl rfl rfl rfl (GF _) (by omega) (by omega) (λ _=>rfl) λ g'=>?_;have hmk:made [Value.int .i64 0] (n*1)=jo 0 n (.int .i64 x) (.int .i64 0):=by rw[dh,G8];simp[jo]
 rw[hmk];refine ae [] rfl ?_;refine ad (aa ?_);refine am (gs:=[999]) rfl ?_;refine am (gs:=[999]) rfl ?_;refine pj (i:=0) (vs:=List.replicate 1 (.int .i64 x)) 0 1 rfl rfl rfl rfl rfl (ak _ _ _) rfl rfl (by show 1=Nat.min 1 n;exact (H9 h1).symm) rfl (by rw[iW (GB _),GU];omega) [] rfl ?_;rw[sT (by omega)];refine ae [] rfl ?_;refine ad (au ?_);refine bO (σ:=Nat) (λ k=>[(8,.int .i64 (k:Int)),(7,.slice (some ⟨g',0,none⟩) n n)]) (λ k=>[.own (.slice (some ⟨g',0,none⟩) n n) 2 1 n (jo k n (.int .i64 x) (.int .i64 0))]) (λ k=>1<=k/\k<=n) (λ k=>n-k) 1 [0] ⟨rfl,rfl,an⟩ (by decide) rfl ⟨GF _,h1⟩ ?_;rintro k ⟨hk1,hk2⟩;refine ad (ad (aa (ae [] rfl ?_)));refine aC rfl (λ hlt=>aq ?_) (λ hge=>bc ?_)
 ·have hkn:k<n:=by omega
  obtain⟨m,hm⟩:∃ m,m=min k (n-k):=⟨_,rfl⟩;refine au ?_;refine bu 10 (cZ [0,1,2,3,4,5,6]++[(7,false)]++cZ [8,9]) [] (by kernel_rfl) (by decide) rfl ?_;refine bB (gs:=[999]) rfl rfl ?_;refine bB (gs:=[999]) rfl rfl ?_;refine bB (gs:=[999]) rfl rfl ?_;refine aj [999] rfl (dE (i:=k) rfl rfl rfl rfl rfl hk2) rfl ?_;refine eg 41 (v':=.slice (some ⟨g',k,none⟩) (n-k) (n-k)) rfl ?_ ?_
  ·have:=fT (A:=some ⟨g',0,none⟩) (c:=n) (l:=k) (n:=n) (sz:=1) (b:=g') (o:=0) (λ _=>rfl) (GF _) hkn;rw[G8,GZ] at this;show Value.slice (gj _ _ _ 1) _ _=_;rw[this]
  refine bB (gs:=[999]) rfl rfl ?_;refine bB (gs:=[999]) rfl rfl ?_;refine aj [999] rfl (gF (i:=k) rfl rfl rfl rfl rfl hk2) rfl ?_;refine bg rfl ?_;refine pj (i:=k) (vs:=List.replicate m (.int .i64 x)) 0 0 rfl rfl rfl rfl rfl (λ w hw i v hi=>cp w hw i v (?_)) rfl rfl (by rw[GU];exact hm) (?_) (by rw[iW hk2,GU];omega) [] rfl ?_
  ·have h2:=(Gv.1 hi).1;rw[GU] at h2;rw[GN,if_pos h2] at hi;unfold jo;rw[Hi (by rw[GU];omega),GN,if_pos (by omega)];exact hi
  ·clear hm
   induction m with
   |zero=>rfl
   |succ m ih=>rw[Hw];exact ih
  rw[sT (by omega),GU];refine ai ⟨⟨[],by decide,rfl⟩,?_⟩;refine bB (gs:=[999]) rfl rfl ?_;refine bB (gs:=[999]) rfl rfl ?_;refine bq ?_;refine ai ?_;refine⟨k+m,[0],⟨?_,rfl,an⟩,by decide,rfl,⟨by omega,by omega⟩,by omega⟩;show some (Value.int .i64 (IntKind.i64.wrap ((k:Int)+(m:Int))))=_;rw[cv (by omega)];rfl
 ·obtain rfl:k=n:=by omega
  refine ad (aa (ae [] rfl ?_));refine ay ⟨_,rfl,g',rfl,?_⟩;rw[show jo k k (.int .i64 x) (.int .i64 0)=ax (List.replicate k x) by simp[jo,ax]]
def jz(v:Int):Nd:=⟨none,none,none,1,v,v,v,0,false⟩
def FI(A:OA)(cap k:Nat)(pf:Nat)(v:Int):Heap:=
 [blk pf 331 [.slice A k cap,.int .i64 0],.own (.slice A k cap) 334 9 k (fC k λ _=>jz v)]
set_option maxHeartbeats 1000000 in
theorem Dj(v:Int)(hv:-4611686018427387904<=v/\v<=4611686018427387904)(N:Nat)(h1:1<=N)(hN:N<=3000)(g c:Nat):
 Fn 246 [.slice (some ⟨g,0,none⟩) N c] [] [.seg g 0 (ax (List.replicate N v))] λ r H'=>∃ ps gn cap,r=.tuple #[.pointer (some ⟨ps,0,none⟩),.int .i64 0]/\H'=FI (some ⟨gn,0,none⟩) cap N ps v:=by
 refine aJ Tryz.func246 rfl rfl λ w0=>?_;refine ad (aa (ae [] rfl ?_));refine ad (ad (aa (ae [] rfl ?_)));refine aC rfl (λ h=>absurd h (by omega)) (λ _=>aq ?_);refine ad (aa ?_);refine ab [] (bz rfl rfl rfl rfl rfl rfl) rfl ?_;refine bx rfl rfl rfl (λ _=>rfl) λ ps=>?_;refine ae [] rfl ?_;refine ad (ad (aa (ae [] rfl ?_)));refine au ?_;refine cd 334 9 ?_
 refine b6 (σ:=Nat×OA×Nat) (λ t=>[(14,.int .i64 (t.1:Int)),(13,.int .i64 (N:Int)),(12,.slice (some ⟨g,0,none⟩) N c),(4,.pointer (some ⟨ps,0,none⟩))]) (λ t=>FI t.2.1 t.2.2 t.1 ps v++[.seg g 0 (ax (List.replicate N v))])
  (λ t=>t.1<=N) (λ t=>N-t.1) (0,none,0) ⟨rfl,rfl,rfl,rfl,an⟩ ?_ (GB _) ?_
 ·exact aH.re (A:=[.own (.slice none 0 0) 334 9 0 [],blk ps 331 [.slice none 0 0,.int .i64 0],.seg g 0 (ax (List.replicate N v))]) (R:=[]) [1,0,2] rfl (by decide)
 rintro⟨k,A,cap⟩ hk;simp only at hk ⊢;refine ad (aa (ae [] rfl ?_));refine ad ?_;refine aC rfl (λ hlt=>aq ?_) (λ hge=>?_)
 ·have hkN:k<N:=by omega
  refine ad (au ?_);refine ad (aa ?_);refine ab [] (aG rfl hkN) rfl ?_;refine ab [] (fm (v:=.int .i64 v) 2 rfl rfl rfl (GZ _).symm (dx (by rw[GN,if_pos hkN]))) rfl ?_;refine ae [] rfl ?_;refine ad (ad (aa ?_));refine am (gs:=[999]) rfl ?_;refine am (gs:=[999]) rfl ?_;refine am (gs:=[999]) rfl ?_;refine aX 20 rfl (by omega) ?_;refine ah [2] rfl ?_;refine ae [] rfl ?_;refine aC rfl (λ h=>absurd h (by omega)) (λ _=>aq ?_);refine aa ?_;refine am (gs:=[999]) rfl ?_;refine am (gs:=[999]) rfl ?_;refine am (gs:=[999]) rfl ?_;refine am (gs:=[999]) rfl ?_;refine ab [] (v:=.slice A k cap) (af 0 rfl) rfl ?_
  refine ab [] (vi (fs:=[(0,1,0),(1,1,0)]) rfl rfl rfl rfl (λ i off sz ag h=>by
   match i with
   |0=>simp at h;omega
   |1=>simp at h;omega
   |i+2=>simp at h) rfl rfl) rfl ?_
  refine am (gs:=[999]) rfl ?_;refine am (gs:=[999]) rfl ?_;refine am (gs:=[999]) rfl ?_;refine ab [] (bz rfl rfl rfl rfl rfl rfl) rfl ?_;refine bF rfl rfl rfl rfl rfl rfl rfl (λ _=>rfl) λ g2=>?_;refine bv (n:=k) (m:=1) (off:=0) (news:=eh (jz v)) 2 0 rfl rfl rfl rfl rfl rfl (by decide) rfl rfl (aF g2 _ _ (0,0)) (λ _=>rfl) rfl rfl (by omega) (by omega) (λ _ _=>rfl) λ A2 c2=>?_;refine am (gs:=[999]) rfl ?_;refine am (gs:=[999]) rfl ?_;refine aA 1 rfl [] rfl ?_;refine ai ?_;refine aa (ae [] rfl ?_);refine⟨(k+1,A2,c2),⟨?_,rfl,rfl,rfl,an⟩,?_,hkN,by show N-(k+1)<N-k;omega⟩
  ·show some (Value.int .i64 (IntKind.i64.wrap ((k:Int)+1)))=_;rw[cv (by omega)];rfl
  ·refine aH.trans (aH.sub (G9 _ _)) ?_;show aH _ ([blk ps 331 [.slice A2 (k+1) c2,.int .i64 0],.own (.slice A2 (k+1) c2) 334 9 (k+1) (fC k (λ _=>jz v)++eh (jz v))]++[.seg g 0 (ax (List.replicate N v))]) _;rw[show fC k (λ _=>jz v)++eh (jz v)=fC (k+1) λ _=>jz v from (rd k _).symm];exact aH.refl
 ·obtain rfl:k=N:=by omega
  refine bh (aW 1 rfl) λ ⟨_,_,hA,_⟩=>?_;obtain⟨gn,rfl⟩:=hA (by omega);refine bc ?_;refine ad (aa (ae [] rfl ?_));exact az [0,1] (by decide) rfl (ay ⟨_,rfl,ps,gn,cap,rfl,rfl⟩)
set_option maxHeartbeats 1000000 in
theorem DL(v:Int)(hv:-4611686018427387904<=v/\v<=4611686018427387904)(N:Nat)(h1:1<=N)(hN:N<=3000)(g c:Nat):
 Fn 238 [.slice (some ⟨g,0,none⟩) N c] [] [.seg g 0 (ax (List.replicate N v))] λ r H'=>∃ pt ps gn go co cap,r=.tuple #[.pointer (some ⟨pt,0,none⟩),.int .i64 0]/\H'=jD pt ps go gn co cap N ⟨λ _=>jz v,λ _=>none,0⟩:=by
 refine aJ Tryz.func238 rfl rfl λ w0=>?_;refine ad (aa (ae [] rfl ?_));refine ad (aa ?_);refine am (gs:=[999]) rfl ?_;refine ap [] (Dj v hv N h1 hN g c) rfl (by kernel_rfl) ⟨⟨0,_,by simp,rfl,ak _ _ _,av⟩,an⟩ (λ _=>rfl) ?_;rintro _ H' ⟨ps,gn,cap,rfl,rfl⟩;refine⟨rfl,?_⟩;refine ae [] rfl ?_;refine ad (ad (aa (ae [] rfl ?_)));refine aC rfl (λ h=>absurd rfl h) (λ _=>aq ?_);refine ad (aa ?_);refine am (gs:=[999]) rfl ?_;refine bF rfl rfl rfl rfl rfl rfl rfl (λ _=>rfl) λ g2=>?_;refine am (gs:=[999]) rfl ?_;refine am (gs:=[999]) rfl ?_;refine ap [] (CM (-1) g2 1 N h1 (by omega)) rfl (by kernel_rfl) ⟨⟨0,_,by simp,rfl,aF _ _ _ (0,0),.inr rfl⟩,an⟩ (λ _=>rfl) ?_;rintro _ H' ⟨go,rfl,rfl⟩;refine⟨rfl,?_⟩;refine ab [] (bz rfl rfl rfl rfl rfl rfl) rfl ?_;refine am (gs:=[999]) rfl ?_;refine am (gs:=[999]) rfl ?_;refine ab [] (bz rfl rfl rfl rfl rfl rfl) rfl ?_;refine bx rfl rfl rfl (λ _=>rfl) λ pt=>?_;refine ae [] rfl ?_;refine az [3,4,0,1] (by decide) rfl (ay ⟨_,rfl,pt,ps,gn,go,N,cap,rfl,?_⟩)
 have e:ax (List.replicate N (-1))=BX N (λ _=>none):=by
  unfold BX
  congr 1
  apply Id
  intro i;rw[GN,GC];by_cases h:i<N
  ·rw[if_pos h,List.getElem?_range h];rfl
  ·rw[if_neg h,G6 (by rw[HM];omega)];rfl
 rw[e];rfl
theorem fE.new{N:Nat}{v:Int}(hv:-4611686018427387904<=v/\v<=4611686018427387904):fE N ⟨λ _=>jz v,λ _=>none,0⟩ (λ _=>none) (λ _=>v) (λ x=>[x]):=by
 refine⟨⟨λ x hx=>?_,λ x _=>by simp,λ x hx y hy=>?_,λ x _ y hy=>?_,λ x _=>by simp,λ x _=>hv⟩,?_,?_,?_,?_,?_,?_⟩
 ·exact⟨.node .nil x v 0 false .nil,⟨⟨rfl,rfl,rfl,(cv (n:=v) (by omega)).symm,rfl,rfl,rfl,⟨v,⟨⟨(x,v),by simp[T.flat],rfl⟩,λ e he=>by simp[T.flat,sh] at he;rw[he];exact HK _⟩,(cv (n:=v) (by omega)).symm⟩,⟨v,⟨⟨(x,v),by simp[T.flat],rfl⟩,λ e he=>by simp[T.flat,sh] at he;rw[he];exact HK _⟩,(cv (n:=v) (by omega)).symm⟩⟩,an,an⟩,rfl⟩
 ·rw[Gy.1 hy];exact hx
 ·rw[Gy.1 hy]
 ·exact⟨λ _ _=>trivial,λ _ _=>trivial,λ _ _=>trivial⟩
 ·intro x _ A u w B h;have:=Gt List.length h;simp at this;omega
 ·exact λ _ _ _ _ _=>rfl
 ·exact λ _ _ _ _ _ _ _=>rfl
 ·exact λ x _=>⟨[x],rfl,rfl⟩
 ·exact λ _ _=>trivial
def uo(N:aU)(A:OA)(c:Nat)(Ar:OA)(cr:Nat)(least:Int)(n gl gu:Nat)(fp:Value)(k w:Nat):LV_:=[.int .i64 N.nodes,.int .i64 N.src,.int .i64 N.snk,.slice A N.arcs.length c,.slice Ar (2*N.arcs.length) cr,.int .i64 least,.slice (some ⟨gl,0,none⟩) (n+1) (n+1),.slice (some ⟨gu,0,none⟩) (n+1) (n+1),fp,.int .i64 (dc k),.int .i64 (dc w)]
theorem AS(N:aU)(A:OA)(c:Nat)(Ar:OA)(cr:Nat)(least:Int)(n gl gu:Nat)(fp:Value)(k w pe:Nat):Fn 236 [.pointer (some ⟨pe,0,none⟩)] (aL [blk pe 310 (uo N A c Ar cr least n gl gu fp k w)]) ([]++[blk pe 310 (uo N A c Ar cr least n gl gu fp k w)]) λ _ H'=>H'=[blk pe 310 (uo N A c Ar cr least n gl gu fp (k+1) w)]:=by
 generalize hM:aL _=M
 refine aJ Tryz.func236 rfl rfl λ w0=>?_;refine aa ?_
 (repeat' (first|refine am (gs:=[999]) rfl ?_|refine ab [999] (af 0 rfl) rfl ?_))
 refine aI 6 (v':=.int .i64 (dc ((k+1:Nat):Int))) rfl (Gt (Value.int .i64) (mD _ _)) ?_
 (repeat' (refine am (gs:=[999]) rfl ?_))
 refine aA 0 rfl [] rfl ?_;exact ai ⟨_,rfl,rfl⟩
set_option maxHeartbeats 2000000 in
theorem Eb(N:aU)(hR:N.Right)(A:OA)(c b o:Nat)(hA:N.arcs≠[]->A=some ⟨b,o,none⟩)(Ar:OA)(cr:Nat)(ls:LN)(hls:∀ r∈ls,r<2*N.arcs.length)(hll:ls.length<=4000)(B:OA)(cb bb ob:Nat)(hB:ls≠[]->B=some ⟨bb,ob,none⟩)(least:Int)(n:Nat)(hn:N.nodes=n):
 Fn 233 [bp N A c,.slice Ar (2*N.arcs.length) cr,.slice B ls.length cb,.int .i64 least] [] [.seg b o (arcs N.arcs),.seg bb ob (bS ls)]
  λ r H'=>∃ (pe gl gu pt ps gn go co cap:Nat) (rows:List d9),r=.pointer (some ⟨pe,0,none⟩)/\rows.length=n+1/\(∀ (v:Nat) (row:d9),rows[v]?=some row->row.l=(ek N ls v).map λ (i:Nat)=>(i:Int))/\
   H'=(jD pt ps go gn co cap (n+1) ⟨λ _=>jz 4611686018427387904,λ _=>none,0⟩++[blk pe 310 (uo N A c Ar cr least n gl gu (.pointer (some ⟨pt,0,none⟩)) ls.length 0),.own (.slice (some ⟨gl,0,none⟩) (n+1) (n+1)) 23 1 (n+1) (rows.map cz),.own (.slice (some ⟨gu,0,none⟩) (n+1) (n+1)) 23 1 (n+1) ((List.replicate (n+1) dv).map cz)])++(rows++List.replicate (n+1) dv).map (aZ 3):=by
 have hnn:=hR.nodes;have hl2:=hR.len;refine aJ Tryz.func233 rfl rfl λ w0=>?_;refine ad (aa ?_);refine bx (cs:=bI N A c) rfl rfl rfl (λ _=>rfl) λ p=>?_;refine ae [] rfl ?_;refine jg (σ:=Nat×Nat×Nat) (λ t=>[(9,.pointer (some ⟨t.1,0,none⟩)),(21,.slice (some ⟨t.2.1,0,none⟩) (n+1) (n+1)),(25,.slice (some ⟨t.2.2,0,none⟩) (n+1) (n+1)),(2,.slice B ls.length cb),(4,.pointer (some ⟨p,0,none⟩))]) (λ t=>[blk t.1 310 (uo N A c Ar cr least n t.2.1 t.2.2 (.pointer none) 0 0),.own (.slice (some ⟨t.2.1,0,none⟩) (n+1) (n+1)) 23 1 (n+1) ((List.replicate (n+1) dv).map cz),.own (.slice (some ⟨t.2.2,0,none⟩) (n+1) (n+1)) 23 1 (n+1) ((List.replicate (n+1) dv).map cz),blk p 33 (bI N A c),.seg b o (arcs N.arcs),.seg bb ob (bS ls)]) ?_ ?_
 ·refine sA (Sf:=[blk p 33 (bI N A c)]) ?_;refine sw [0,1,2,3,4,5,7,8,9] (by decide+kernel) [0] (by decide) rfl ?_
  (repeat' (first|refine bB (gs:=[999]) rfl rfl ?_|refine aj [999] rfl (af 0 rfl) rfl ?_))
  refine bq ?_;refine r9 20 (v':=.int .i64 ((n+1:Nat):Int)) rfl (Gt (Value.int .i64) ((cv (n:=N.nodes+1) (by omega)).trans (by omega))) ?_;refine r9 24 (v':=.int .i64 ((n+1:Nat):Int)) rfl (Gt (Value.int .i64) ((cv (n:=N.nodes+1) (by omega)).trans (by omega))) ?_;refine bT 6 [10] (by decide+kernel) (by decide) ?_
  (repeat' (first|exact an|refine bT 10 [] (by decide+kernel) (by decide) ?_|refine bT 6 [] (by decide+kernel) (by decide) ?_|refine bT 11 [] (by decide+kernel) (by decide) ?_|refine bT 12 [] (by decide+kernel) (by decide) ?_|refine bT 13 [] (by decide+kernel) (by decide) ?_|refine⟨⟨_,rfl,?_⟩,?_⟩|refine cX (n:=n+1) (c:=n+1) rfl rfl rfl rfl rfl rfl (by omega) (by omega) (by omega) (λ _=>rfl) λ go=>?_|refine bx rfl rfl rfl (λ _=>rfl) λ pe=>?_|refine ab [] (bz rfl rfl rfl rfl rfl rfl) rfl ?_|refine ai ⟨⟨[1],by decide,rfl⟩,?_⟩|refine ai ⟨⟨[2],by decide,rfl⟩,?_⟩|refine ai ⟨⟨[3],by decide,rfl⟩,?_⟩|refine ae [] rfl ⟨⟨[3],by decide,rfl⟩,?_⟩))
  all_goals refine kY (by decide+kernel) ⟨(_,_,_),⟨rfl,rfl,rfl,rfl,rfl,an⟩,?_⟩
  all_goals rw[show made [Value.slice none 0 0] ((n+1)*1)=(List.replicate (n+1) dv).map cz by rw[dh,G8,HT];rfl]
  all_goals (first|exact aH.re (A:=[_,_,_,_,_,_]) (R:=[]) [0,2,1,3,4,5] rfl (by decide)|exact aH.re (A:=[_,_,_,_,_,_]) (R:=[]) [0,1,2,3,4,5] rfl (by decide))
 rintro⟨pe,gl,gu⟩;simp only;refine ad (aa (ae [] rfl ?_));refine ad (ad (aa (ae [] rfl ?_)));refine au ?_;refine bJ (aH.nils 3 (n+1)) ?_
 refine b6 (σ:=Nat×List d9) (λ s=>[(32,.int .i64 (s.1:Int)),(31,.int .i64 (ls.length:Int)),(30,.slice B ls.length cb),(10,.func (.func 236) #[.pointer (some ⟨pe,0,none⟩)] #[]),(9,.pointer (some ⟨pe,0,none⟩)),(4,.pointer (some ⟨p,0,none⟩))])
  (λ s=>[blk pe 310 (uo N A c Ar cr least n gl gu (.pointer none) s.1 0),.own (.slice (some ⟨gl,0,none⟩) (n+1) (n+1)) 23 1 (n+1) (s.2.map cz),.own (.slice (some ⟨gu,0,none⟩) (n+1) (n+1)) 23 1 (n+1) ((List.replicate (n+1) dv).map cz),blk p 33 (bI N A c),.seg b o (arcs N.arcs),.seg bb ob (bS ls)]++s.2.map (aZ 3))
  (λ s=>s.1<=ls.length/\s.2.length=n+1/\∀ (v:Nat) (r:d9),s.2[v]?=some r->r.l=(ek N (ls.take s.1) v).map λ (i:Nat)=>(i:Int)) (λ s=>ls.length-s.1)
  (0,List.replicate (n+1) dv) ⟨rfl,rfl,rfl,rfl,rfl,rfl,an⟩ aH.refl ⟨GB _,by simp,λ v r h=>?_⟩ ?_
 ·rw[GN] at h;split at h
  ·simp only[Gs] at h;subst h;rfl
  ·cases h
 rintro⟨k,rows⟩ ⟨hk,hrows,htr⟩;simp only at hk hrows htr ⊢;refine ad (aa (ae [] rfl ?_));refine ad (aC rfl (λ hlt=>aq ?_) (λ hge=>bc ?_))
 ·have hlt:k<ls.length:=by omega
  obtain⟨r,hr⟩:∃ r,ls[k]?=some r:=⟨ls[k],Gq hlt⟩;have hrl:=hls r (Gu hr);obtain⟨he,hf1,hf2⟩:=kn hR hrl;obtain⟨v,hv⟩:∃ v,dC N r=v:=⟨_,rfl⟩;rw[hv] at he hf1 hf2;obtain rfl:=hB (by rintro rfl;simp at hlt);have hvn:v<rows.length:=by omega
  obtain⟨row,hrow⟩:∃ r,rows[v]?=some r:=⟨rows[v],Gq hvn⟩;have hrl':=htr v row hrow;have hlen:=iY N (ls.take k) v;have htake:(ls.take k).length<=ls.length:=by rw[GV];omega
  have hrowl:row.l.length=(ek N (ls.take k) v).length:=by rw[hrl',GA]
  have htk:ls.take (k+1)=ls.take k++[r]:=by rw[GO,hr];rfl
  refine ad (au ?_);refine ad (aa (ah [] rfl ?_));refine ab [] (bR rfl hlt) rfl ?_;refine ab [] (a8 5 rfl rfl (dl hr)) rfl ?_;refine ae [] rfl ?_;refine ad (aa ?_);refine am (gs:=[999]) rfl ?_;refine aw (fst:=[.pointer (some ⟨pe,0,none⟩)]) (cap:=[]) [999] (AS N A c Ar cr least n gl gu (.pointer none) k 0 pe) rfl rfl rfl rfl (by kernel_rfl) aH.refl an (λ _=>rfl) ?_;rintro v0 H' rfl;refine⟨rfl,?_⟩;refine ai ?_;refine ad (aa ?_);refine ab [] (v:=bp N A c) (af 3 rfl) rfl ?_;refine ah [] rfl ?_;refine ap [] (gC N A c b o hA hl2 r hrl) rfl (by kernel_rfl) ⟨⟨4,_,by simp,rfl,ak _ _ _,av⟩,an⟩ (λ _=>rfl) ?_;rintro v' H' ⟨rfl,rfl⟩;refine⟨rfl,?_⟩;refine ae [] rfl ?_;refine a7 13 (v':=.int .i64 (v:Int)) rfl (Gt (Value.int .i64) he) ?_;show J _ _ _ _ ([_,_,_,_,_,_]++rows.map (aZ 3));refine bJ (aH.front (i:=v) (c:=aZ 3 row) (by rw[GC,hrow];rfl)) ?_;refine bu 16 (cZ [0,1,2,3,4,5,6,7,8,9,10,11,12]++[(13,false),(14,false)]++cZ [15]) [1,2] (by kernel_rfl) (by decide) rfl ?_;refine aB [] rfl ?_;refine aj [] rfl (af (v:=.slice (some ⟨gl,0,none⟩) (n+1) (n+1)) 0 rfl) rfl ?_;refine aB [] rfl ?_;refine aj [] rfl (af (v:=.slice (some ⟨gl,0,none⟩) (n+1) (n+1)) 0 rfl) rfl ?_;refine aB [] rfl ?_;refine aj [] rfl (aG rfl (by omega)) rfl ?_;refine aj [] rfl (aD (v:=cz row) 1 rfl rfl rfl (show (rows.map cz)[v]?=some (cz row) by rw[GC,hrow];rfl)) rfl ?_;refine aB [] rfl ?_;refine bg rfl ?_;refine bF rfl rfl rfl rfl rfl rfl rfl (λ _=>rfl) λ g2=>?_;refine ai ⟨⟨[2,3],by decide,rfl⟩,?_⟩;refine bg rfl ?_;refine bv (n:=row.l.length) (m:=1) (off:=0) (news:=ax [(r:Int)]) 1 0 rfl rfl rfl rfl rfl rfl (by decide) rfl rfl (aF g2 _ _ (0,0)) (λ _=>rfl) rfl rfl (by omega) (by omega) (λ _ _=>rfl) λ A2 c2=>?_;rw[show row.l.length+1=(row.l++[(r:Int)]).length by simp,show ax row.l++ax [(r:Int)]=ax (row.l++[(r:Int)]) by simp[ax]];refine ai ⟨⟨[2,3],by decide,rfl⟩,?_⟩;refine aj [] rfl (aG rfl (by omega)) rfl ?_;refine bq ?_;refine aO 3 rfl rfl rfl rfl (df rfl rfl rfl (by rw[GA];omega)) [] rfl ?_;refine ai ?_;refine aa (ae [] rfl ?_);refine⟨(k+1,rows.set v ⟨A2,c2,row.l++[(r:Int)]⟩),⟨?_,rfl,rfl,rfl,rfl,rfl,an⟩,?_,⟨by simp only;omega,by simp only[Ha];omega,λ u q hu=>?_⟩,by simp only;omega⟩
  ·show some (Value.int .i64 (IntKind.i64.wrap ((k:Int)+1)))=_;rw[cv (by omega)];rfl
  ·simp only[In];refine aH.trans (aH.sub (G9 _ _)) (aH.back (A:=[_,_,_,_,_,_]) (by rw[GA];exact hvn))
  ·simp only at hu ⊢;rw[htk,tU,GX];by_cases huv:v=u
   ·subst huv;rw[GH hvn] at hu;simp only[Gs] at hu;rw[<- hu,if_pos hv,hrl'];rfl
   ·rw[GJ huv] at hu;rw[if_neg (λ e=>huv (hv.symm.trans e)),Hy,G5];exact htr u q hu
 ·obtain rfl:k=ls.length:=by omega
  rw[GY] at htr;refine bJ (aH.nils 3 (n+1)) ?_;rw[G4,<- GX];obtain⟨R,hR2⟩:∃ R,R=(rows++List.replicate (n+1) dv).map (aZ 3):=⟨_,rfl⟩;rw[<- hR2];refine ad (aa ?_);refine am (gs:=[999]) rfl ?_;refine bF rfl rfl rfl rfl rfl rfl rfl (λ _=>rfl) λ g2=>?_;refine am (gs:=[999]) rfl ?_;refine ab [] (v:=.int .i64 N.nodes) (af 4 rfl) rfl ?_;refine am (gs:=[999]) rfl ?_;refine aI 66 (v':=.int .i64 ((n+1:Nat):Int)) rfl (Gt (Value.int .i64) ((cv (n:=N.nodes+1) (by omega)).trans (by omega))) ?_;refine ap [] (CK 4611686018427387904 g2 1 (n+1) (by omega) (by omega)) rfl (by kernel_rfl) ⟨⟨0,_,by simp,rfl,aF _ _ _ (0,0),.inr rfl⟩,an⟩ (λ _=>rfl) ?_;rintro _ H' ⟨g3,rfl,rfl⟩;refine⟨rfl,?_⟩;refine ap [] (DL 4611686018427387904 (by decide) (n+1) (by omega) (by omega) g3 (n+1)) rfl (by kernel_rfl) ⟨⟨0,_,by simp,rfl,cp,.inr rfl⟩,an⟩ (λ _=>rfl) ?_;rintro _ H' ⟨pt,ps,gn,go,co,cap,rfl,rfl⟩;refine⟨rfl,?_⟩;refine am (gs:=[999]) rfl ?_;refine am (gs:=[999]) rfl ?_;refine am (gs:=[999]) rfl ?_;refine am (gs:=[999]) rfl ?_;refine am (gs:=[999]) rfl ?_;refine aA 6 rfl [] rfl ?_;refine ai ?_;refine ad (aa (ae [] rfl ?_))
  refine bJ (aH.re (A:=jD pt ps go gn co cap (n+1) ⟨λ _=>jz 4611686018427387904,λ _=>none,0⟩++[.own (.slice (some ⟨g3,0,none⟩) (n+1) (n+1)) 2 1 (n+1) (ax (List.replicate (n+1) 4611686018427387904)),blk g2 2 [.int .i64 4611686018427387904],blk pe 310 (uo N A c Ar cr least n gl gu (.pointer (some ⟨pt,0,none⟩)) ls.length 0),
   .own (.slice (some ⟨gl,0,none⟩) (n+1) (n+1)) 23 1 (n+1) (rows.map cz),.own (.slice (some ⟨gu,0,none⟩) (n+1) (n+1)) 23 1 (n+1) ((List.replicate (n+1) dv).map cz),blk p 33 (bI N A c),.seg b o (arcs N.arcs),.seg bb ob (bS ls)]) (R:=R) [0,1,2,3,6,7,8] rfl (by decide)) ?_
  exact ay ⟨_,rfl,pe,gl,gu,pt,ps,gn,go,co,cap,rows,rfl,hrows,htr,by rw[hR2];rfl⟩
end Go.Proofs.YtmcnpaelaieniaaGreatDoor
