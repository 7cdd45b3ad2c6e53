import Derived.Test.YtmcnpaelaieniaaGreatDoorQX86
import Derived.Test.YtmcnpaelaieniaaGreatDoorQB
import Derived.Test.YtmcnpaelaieniaaGreatDoorQA
import Derived.Test.YtmcnpaelaieniaaGreatDoorQE
import Derived.Test.YtmcnpaelaieniaaGreatDoorQX74
import Derived.Test.YtmcnpaelaieniaaGreatDoorQX109
/- A part of the proof; see NOTES.md. -/
set_option linter.unusedVariables false
set_option linter.unusedSimpArgs false
namespace Go.Proofs.YtmcnpaelaieniaaGreatDoor
open Go.RowKit
theorem vO{X:Cx}{E:Env}{H:Heap}{o:Oper}{t n e s by_ s1 by':Nat}{z:Value}{z':Option Value}{uk:UK}{fs:List (Nat×Nat×Nat)}{zs cs:LV_}{ps:Array (Nat×Operand)}{vs:List (Nat×Value)}(ho:o.op=.build t ps)(ht:tab t=some ⟨.arr n e,s,by_,some z⟩)(he:tab e=some ⟨uk,s1,by',z'⟩)(hz:z.cells=zs.toArray)
 (hfs:∀ i off sz ag,fs[i]?=some (off,sz,ag)->off=i*s1/\sz=s1) (hp:oh E ps.toList=some vs) (hb:nL fs zs vs=some cs):gq X o E H (.agg cs.toArray):=by
 intro a w hA hH;obtain⟨j,hi,hjz,_,_⟩:=io ht
 have hu:Tryz.prog.underlying t=some (.array n e):=by
  obtain⟨d,j,hd,_,hu,_⟩:=dL ht;rw[hd];cases d<;>simp[mf] at hu ⊢;exact hu
 have e1:=hA.valsP _ _ hp;have e2:(ps.map λ (i,x)=>(i,a.eval x)).toList=vs:=by rw[<- e1];simp
 have hfill:=lX (pl:=λ i=>some (i*s1,s1)) (λ i off sz ag h=>by obtain⟨h1,h2⟩:=hfs i off sz ag h;rw[h1,h2]) vs zs cs hb;have hsz:(sizeOf e).run Tryz.prog w=.ok s1 w:=dc he w
 have hrun:(Instr.build t (ps.map λ (i,x)=>(i,a.eval x))).run Tryz.prog w=.ok (.agg cs.toArray) w:=by
  unfold Instr.build;rw[e2];have hz1:(zeroValue t).run Tryz.prog w=.ok z w:=by simp[zeroValue,typeInfo,hi,hjz]
  simp only[Sem.run_bind,hz1,run_underlying hu,Result.andThen_ok,hsz,hz];rw[hfill];rfl
 have hrun':(Instr.build t (ps.map λ x=>match x with|(i,x)=>(i,a.eval x))).run Tryz.prog w=.ok (.agg cs.toArray) w:=hrun;simp[execOp,ho,hrun']
theorem Ew{n:Nat}(h:n<18446744073709551616):IntKind.u64.wrap (n:Int)=n:=by rw[IntKind.wrap_u64];omega
theorem BI{n:Nat}(h:n<4294967296):IntKind.u64.wrap (((BitVec.ofInt IntKind.u64.bits (n:Int)&&& BitVec.ofInt IntKind.u64.bits 4294967295).toNat:Nat):Int)=n:=by
 have h1:(BitVec.ofInt IntKind.u64.bits (n:Int)).toNat=n:=by
  show (BitVec.ofInt 64 (n:Int)).toNat=n;rw[BitVec.toNat_ofInt];omega
 have h2:(BitVec.ofInt IntKind.u64.bits 4294967295).toNat=4294967295:=by decide
 rw[BitVec.toNat_and,h1,h2,show (4294967295:Nat)=2^32-1 by decide,Nat.and_two_pow_sub_one_eq_mod,Ew (by omega)];omega
theorem u7{n:Nat}(h:n<4294967296):((n:Int)).fdiv (2^(min 32 IntKind.u64.bits))=0:=by
 show ((n:Int)).fdiv 4294967296=0;rw[I4 _ (by omega)];omega
theorem BJ(n:Nat)(hn:n<4294967296):Fn 260 [.int .u64 ((1:Nat):Int),.int .u64 (n:Int)] [] [] λ v H'=>v=.tuple #[.int .u64 ((0:Nat):Int),.int .u64 (n:Int)]/\H'=[]:=by
 refine aH Tryz.func260 rfl rfl λ w0=>?_;refine ad (aa (ae [] rfl ?_));refine ad (aa (ae [] rfl ?_));refine aX 6 (v':=.int .u64 ((1:Nat):Int)) rfl (Gz (Value.int .u64) (BI (by decide))) ?_;refine ad (aa (ae [] rfl ?_));refine aX 7 (v':=.int .u64 ((0:Nat):Int)) rfl (Gz (Value.int .u64) (u7 (n:=1) (by decide))) ?_;refine ad (aa (ae [] rfl ?_));refine aX 8 (v':=.int .u64 (n:Int)) rfl (Gz (Value.int .u64) (BI hn)) ?_;refine ad (aa (ae [] rfl ?_));refine aX 9 (v':=.int .u64 ((0:Nat):Int)) rfl (Gz (Value.int .u64) (u7 hn)) ?_;refine ad (aa (ae [] rfl ?_));refine aX 10 (v':=.int .u64 (n:Int)) rfl (Gz (Value.int .u64) ((Gz _ (Int.one_mul _)).trans (Ew (by omega)))) ?_;refine ad (aa (ae [] rfl ?_))
 refine aX 11 (v':=.int .u64 ((0:Nat):Int)) rfl (Gz (Value.int .u64) (by
  show IntKind.u64.wrap (IntKind.u64.wrap (0*(n:Int))+((n:Int)).fdiv (2^(min 32 IntKind.u64.bits)))=0;rw[Int.zero_mul,u7 hn];decide)) ?_
 refine ad (aa (ae [] rfl ?_));refine aX 12 (v':=.int .u64 ((0:Nat):Int)) rfl (Gz (Value.int .u64) (BI (n:=0) (by decide))) ?_;refine ad (aa (ae [] rfl ?_));refine aX 13 (v':=.int .u64 ((0:Nat):Int)) rfl (Gz (Value.int .u64) (u7 (n:=0) (by decide))) ?_;refine ad (aa (ae [] rfl ?_))
 refine aX 12 (v':=.int .u64 ((0:Nat):Int)) rfl (Gz (Value.int .u64) (by
  show IntKind.u64.wrap (0+IntKind.u64.wrap (1*0))=0
  decide)) ?_
 refine ad (aa (ae [] rfl ?_))
 refine aX 4 (v':=.int .u64 ((0:Nat):Int)) rfl (Gz (Value.int .u64) (by
  show IntKind.u64.wrap (IntKind.u64.wrap (IntKind.u64.wrap (0*0)+0)+((0:Nat):Int).fdiv (2^(min 32 IntKind.u64.bits)))=0;rw[u7 (n:=0) (by decide)];decide)) ?_
 refine ad (aa (ae [] rfl ?_));refine aX 5 (v':=.int .u64 (n:Int)) rfl (Gz (Value.int .u64) ((Gz _ (Int.one_mul _)).trans (Ew (by omega)))) ?_;exact ax ⟨_,rfl,rfl,rfl⟩
theorem xw(n:Nat)(hn:n<4294967296):Fn 248 [.int .u64 ((1:Nat):Int),.int .u64 (n:Int)] [] [] λ v H'=>v=.tuple #[.int .u64 ((0:Nat):Int),.int .u64 (n:Int)]/\H'=[]:=by
 refine aH Tryz.func248 rfl rfl λ w0=>?_;refine ad (aa (ae [] rfl ?_));refine ad ?_;refine bG rfl ?_;refine aq (ad (aa (ah [] rfl ?_)));refine ao [] (BJ n hn) rfl (by kernel_rfl) an (λ _=>rfl) ?_;rintro v H' ⟨rfl,rfl⟩;refine⟨rfl,?_⟩;refine ae [] rfl ?_;refine ad (aa (ae [] rfl ?_));exact ax ⟨_,rfl,rfl,rfl⟩
def jC(k N:Nat)(v z:Value):LV_:=List.replicate k v++List.replicate (N-k) z
theorem iZ{k N:Nat}{v z:Value}(h:k<=N):(jC k N v z).length=N:=by simp[jC];omega
theorem se{k m N:Nat}{v z:Value}(h:k+m<=N):wr (jC k N v z) k (List.replicate m v)=jC (k+m) N v z:=by
 induction m generalizing k with
 |zero=>rfl
 |succ m ih=>
  rw[HE];show wr ((jC k N v z).set k v) (k+1) (List.replicate m v)=_
  have:(jC k N v z).set k v=jC (k+1) N v z:=by
   unfold jC;rw[HT _ _ (by simp),G3,HR,show N-k=(N-(k+1))+1 by omega,HE,Id,List.replicate_succ'];simp
  rw[this,ih (by omega),show k+1+m=k+(m+1) by omega]
set_option maxHeartbeats 1000000 in
theorem Du(x:Int)(g c n:Nat)(h1:1<=n)(hn:n<=100000):
 Fn 247 [.slice (some ⟨g,0,none⟩) 1 c,.int .i64 (n:Int)] [] [.seg g 0 (ay [x])] λ v H'=>∃ g',v=.slice (some ⟨g',0,none⟩) n n/\H'=[.own (.slice (some ⟨g',0,none⟩) n n) 3 1 n (ay (List.replicate n x))]:=by
 refine aH Tryz.func247 rfl rfl λ w0=>?_;refine ad (aa (ae [] rfl ?_));refine ad (ad (aa (ae [] rfl ?_)));refine aC rfl (λ h=>absurd h (by omega)) (λ _=>aq ?_);refine ad (aa ?_);refine am (gs:=[999]) rfl ?_;refine am (gs:=[999]) rfl ?_;refine am (gs:=[999]) rfl ?_;refine aI 15 (v':=.int .u64 ((1:Nat):Int)) rfl (Gz (Value.int .u64) (Ew (n:=1) (by decide))) ?_;refine am (gs:=[999]) rfl ?_;refine am (gs:=[999]) rfl ?_;refine aI 17 (v':=.int .u64 (n:Int)) rfl (Gz (Value.int .u64) (Ew (by omega))) ?_;refine ao [] (xw n (by omega)) rfl (by kernel_rfl) an (λ _=>rfl) ?_;rintro v H' ⟨rfl,rfl⟩;refine⟨rfl,?_⟩;refine ae [] rfl ?_;refine ad (ad (aa ?_));refine am (gs:=[999]) rfl ?_;refine am (gs:=[999]) rfl ?_;refine am (gs:=[999]) rfl ?_;refine bd 23 rfl (by decide) ?_;refine ah [2] rfl ?_;refine ae [] rfl ?_;refine aC rfl (λ h=>absurd h (by omega)) (λ _=>aq ?_);refine ad (aa ?_);refine am (gs:=[999]) rfl ?_;refine am (gs:=[999]) rfl ?_;refine aI 29 (v':=.int .i64 (n:Int)) rfl (Gz (Value.int .i64) (b5 (by omega))) ?_;refine di (n:=n) (c:=n) rfl rfl rfl rfl rfl rfl (GN _) (by omega) (by omega) (λ _=>rfl) λ g'=>?_;have hmk:made [Value.int .i64 0] (n*1)=jC 0 n (.int .i64 x) (.int .i64 0):=by rw[dm,Hf];simp[jC]
 rw[hmk];refine ae [] rfl ?_;refine ad (aa ?_);refine am (gs:=[999]) rfl ?_;refine am (gs:=[999]) rfl ?_;refine oO (i:=0) (vs:=List.replicate 1 (.int .i64 x)) 0 1 rfl rfl rfl rfl rfl (ak _ _ _) rfl rfl (by show 1=Nat.min 1 n;exact (If h1).symm) rfl (by rw[iZ (GI _),G3];omega) [] rfl ?_;rw[se (by omega)];refine ae [] rfl ?_;refine ad (av ?_);refine bP (σ:=Nat) (λ k=>[(8,.int .i64 (k:Int)),(7,.slice (some ⟨g',0,none⟩) n n)]) (λ k=>[.own (.slice (some ⟨g',0,none⟩) n n) 3 1 n (jC k n (.int .i64 x) (.int .i64 0))]) (λ k=>1<=k/\k<=n) (λ k=>n-k) 1 [0] ⟨rfl,rfl,an⟩ (by decide) rfl ⟨GN _,h1⟩ ?_;rintro k ⟨hk1,hk2⟩;refine ad (ad (aa (ae [] rfl ?_)));refine aC rfl (λ hlt=>aq ?_) (λ hge=>a9 ?_)
 ·have hkn:k<n:=by omega
  obtain⟨m,hm⟩:∃ m,m=min k (n-k):=⟨_,rfl⟩;refine av ?_;refine bq 10 (cY [0,1,2,3,4,5,6]++[(7,false)]++cY [8,9]) [] (by kernel_rfl) (by decide) rfl ?_;refine bB (gs:=[999]) rfl rfl ?_;refine bB (gs:=[999]) rfl rfl ?_;refine bB (gs:=[999]) rfl rfl ?_;refine aj [999] rfl (dJ (i:=k) rfl rfl rfl rfl rfl hk2) rfl ?_;refine dr 41 (v':=.slice (some ⟨g',k,none⟩) (n-k) (n-k)) rfl ?_ ?_
  ·have:=fO (A:=some ⟨g',0,none⟩) (c:=n) (l:=k) (n:=n) (sz:=1) (b:=g') (o:=0) (λ _=>rfl) (GN _) hkn;rw[Hf,G6] at this;show Value.slice (gb _ _ _ 1) _ _=_;rw[this]
  refine bB (gs:=[999]) rfl rfl ?_;refine bB (gs:=[999]) rfl rfl ?_;refine aj [999] rfl (gH (i:=k) rfl rfl rfl rfl rfl hk2) rfl ?_;refine aY rfl ?_;refine oO (i:=k) (vs:=List.replicate m (.int .i64 x)) 0 0 rfl rfl rfl rfl rfl (λ w hw i v hi=>cD w hw i v (?_)) rfl rfl (by rw[G3];exact hm) (?_) (by rw[iZ hk2,G3];omega) [] rfl ?_
  ·have h2:=(GC.1 hi).1;rw[G3] at h2;rw[GU,if_pos h2] at hi;unfold jC;rw[Hq (by rw[G3];omega),GU,if_pos (by omega)];exact hi
  ·clear hm
   induction m with
   |zero=>rfl
   |succ m ih=>rw[HE];exact ih
  rw[se (by omega),G3];refine ai ⟨⟨[],by decide,rfl⟩,?_⟩;refine bB (gs:=[999]) rfl rfl ?_;refine bB (gs:=[999]) rfl rfl ?_;refine bp ?_;refine ai ?_;refine⟨k+m,[0],⟨?_,rfl,an⟩,by decide,rfl,⟨by omega,by omega⟩,by omega⟩;show some (Value.int .i64 (IntKind.i64.wrap ((k:Int)+(m:Int))))=_;rw[b5 (by omega)];rfl
 ·obtain rfl:k=n:=by omega
  refine ad (aa (ae [] rfl ?_));refine ax ⟨_,rfl,g',rfl,?_⟩;rw[show jC k k (.int .i64 x) (.int .i64 0)=ay (List.replicate k x) by simp[jC,ay]]
set_option maxHeartbeats 1000000 in
theorem DH(x:Int)(g c n:Nat)(h1:1<=n)(hn:n<=100000):
 Fn 239 [.slice (some ⟨g,0,none⟩) 1 c,.int .i64 (n:Int)] [] [.seg g 0 (ay [x])] λ v H'=>∃ g',v=.slice (some ⟨g',0,none⟩) n n/\H'=[.own (.slice (some ⟨g',0,none⟩) n n) 2 1 n (ay (List.replicate n x))]:=by
 refine aH Tryz.func239 rfl rfl λ w0=>?_;refine ad (aa (ae [] rfl ?_));refine ad (ad (aa (ae [] rfl ?_)));refine aC rfl (λ h=>absurd h (by omega)) (λ _=>aq ?_);refine ad (aa ?_);refine am (gs:=[999]) rfl ?_;refine am (gs:=[999]) rfl ?_;refine am (gs:=[999]) rfl ?_;refine aI 15 (v':=.int .u64 ((1:Nat):Int)) rfl (Gz (Value.int .u64) (Ew (n:=1) (by decide))) ?_;refine am (gs:=[999]) rfl ?_;refine am (gs:=[999]) rfl ?_;refine aI 17 (v':=.int .u64 (n:Int)) rfl (Gz (Value.int .u64) (Ew (by omega))) ?_;refine ao [] (xw n (by omega)) rfl (by kernel_rfl) an (λ _=>rfl) ?_;rintro v H' ⟨rfl,rfl⟩;refine⟨rfl,?_⟩;refine ae [] rfl ?_;refine ad (ad (aa ?_));refine am (gs:=[999]) rfl ?_;refine am (gs:=[999]) rfl ?_;refine am (gs:=[999]) rfl ?_;refine bd 23 rfl (by decide) ?_;refine ah [2] rfl ?_;refine ae [] rfl ?_;refine aC rfl (λ h=>absurd h (by omega)) (λ _=>aq ?_);refine ad (aa ?_);refine am (gs:=[999]) rfl ?_;refine am (gs:=[999]) rfl ?_;refine aI 29 (v':=.int .i64 (n:Int)) rfl (Gz (Value.int .i64) (b5 (by omega))) ?_;refine di (n:=n) (c:=n) rfl rfl rfl rfl rfl rfl (GN _) (by omega) (by omega) (λ _=>rfl) λ g'=>?_;have hmk:made [Value.int .i64 0] (n*1)=jC 0 n (.int .i64 x) (.int .i64 0):=by rw[dm,Hf];simp[jC]
 rw[hmk];refine ae [] rfl ?_;refine ad (aa ?_);refine am (gs:=[999]) rfl ?_;refine am (gs:=[999]) rfl ?_;refine oO (i:=0) (vs:=List.replicate 1 (.int .i64 x)) 0 1 rfl rfl rfl rfl rfl (ak _ _ _) rfl rfl (by show 1=Nat.min 1 n;exact (If h1).symm) rfl (by rw[iZ (GI _),G3];omega) [] rfl ?_;rw[se (by omega)];refine ae [] rfl ?_;refine ad (av ?_);refine bP (σ:=Nat) (λ k=>[(8,.int .i64 (k:Int)),(7,.slice (some ⟨g',0,none⟩) n n)]) (λ k=>[.own (.slice (some ⟨g',0,none⟩) n n) 2 1 n (jC k n (.int .i64 x) (.int .i64 0))]) (λ k=>1<=k/\k<=n) (λ k=>n-k) 1 [0] ⟨rfl,rfl,an⟩ (by decide) rfl ⟨GN _,h1⟩ ?_;rintro k ⟨hk1,hk2⟩;refine ad (ad (aa (ae [] rfl ?_)));refine aC rfl (λ hlt=>aq ?_) (λ hge=>a9 ?_)
 ·have hkn:k<n:=by omega
  obtain⟨m,hm⟩:∃ m,m=min k (n-k):=⟨_,rfl⟩;refine av ?_;refine bq 10 (cY [0,1,2,3,4,5,6]++[(7,false)]++cY [8,9]) [] (by kernel_rfl) (by decide) rfl ?_;refine bB (gs:=[999]) rfl rfl ?_;refine bB (gs:=[999]) rfl rfl ?_;refine bB (gs:=[999]) rfl rfl ?_;refine aj [999] rfl (dJ (i:=k) rfl rfl rfl rfl rfl hk2) rfl ?_;refine dr 41 (v':=.slice (some ⟨g',k,none⟩) (n-k) (n-k)) rfl ?_ ?_
  ·have:=fO (A:=some ⟨g',0,none⟩) (c:=n) (l:=k) (n:=n) (sz:=1) (b:=g') (o:=0) (λ _=>rfl) (GN _) hkn;rw[Hf,G6] at this;show Value.slice (gb _ _ _ 1) _ _=_;rw[this]
  refine bB (gs:=[999]) rfl rfl ?_;refine bB (gs:=[999]) rfl rfl ?_;refine aj [999] rfl (gH (i:=k) rfl rfl rfl rfl rfl hk2) rfl ?_;refine aY rfl ?_;refine oO (i:=k) (vs:=List.replicate m (.int .i64 x)) 0 0 rfl rfl rfl rfl rfl (λ w hw i v hi=>cD w hw i v (?_)) rfl rfl (by rw[G3];exact hm) (?_) (by rw[iZ hk2,G3];omega) [] rfl ?_
  ·have h2:=(GC.1 hi).1;rw[G3] at h2;rw[GU,if_pos h2] at hi;unfold jC;rw[Hq (by rw[G3];omega),GU,if_pos (by omega)];exact hi
  ·clear hm
   induction m with
   |zero=>rfl
   |succ m ih=>rw[HE];exact ih
  rw[se (by omega),G3];refine ai ⟨⟨[],by decide,rfl⟩,?_⟩;refine bB (gs:=[999]) rfl rfl ?_;refine bB (gs:=[999]) rfl rfl ?_;refine bp ?_;refine ai ?_;refine⟨k+m,[0],⟨?_,rfl,an⟩,by decide,rfl,⟨by omega,by omega⟩,by omega⟩;show some (Value.int .i64 (IntKind.i64.wrap ((k:Int)+(m:Int))))=_;rw[b5 (by omega)];rfl
 ·obtain rfl:k=n:=by omega
  refine ad (aa (ae [] rfl ?_));refine ax ⟨_,rfl,g',rfl,?_⟩;rw[show jC k k (.int .i64 x) (.int .i64 0)=ay (List.replicate k x) by simp[jC,ay]]
def jE(v:Int):Nd:=⟨none,none,none,1,v,v,v,0,false⟩
def FW(A:OA)(cap k:Nat)(pf:Nat)(v:Int):Heap:=
 [blk pf 331 [.slice A k cap,.int .i64 0],.own (.slice A k cap) 334 9 k (fx k λ _=>jE v)]
set_option maxHeartbeats 1000000 in
theorem DG(v:Int)(hv:-4611686018427387904<=v/\v<=4611686018427387904)(N:Nat)(h1:1<=N)(hN:N<=3000)(g c:Nat):
 Fn 246 [.slice (some ⟨g,0,none⟩) N c] [] [.seg g 0 (ay (List.replicate N v))] λ r H'=>∃ ps gn cap,r=.tuple #[.pointer (some ⟨ps,0,none⟩),.int .i64 0]/\H'=FW (some ⟨gn,0,none⟩) cap N ps v:=by
 refine aH Tryz.func246 rfl rfl λ w0=>?_;refine ad (aa (ae [] rfl ?_));refine ad (ad (aa (ae [] rfl ?_)));refine aC rfl (λ h=>absurd h (by omega)) (λ _=>aq ?_);refine ad (aa ?_);refine ab [] (be rfl rfl rfl rfl rfl rfl) rfl ?_;refine bz rfl rfl rfl (λ _=>rfl) λ ps=>?_;refine ae [] rfl ?_;refine ad (ad (aa (ae [] rfl ?_)));refine av ?_;refine cd 334 9 ?_
 refine b8 (σ:=Nat×OA×Nat) (λ t=>[(14,.int .i64 (t.1:Int)),(13,.int .i64 (N:Int)),(12,.slice (some ⟨g,0,none⟩) N c),(4,.pointer (some ⟨ps,0,none⟩))]) (λ t=>FW t.2.1 t.2.2 t.1 ps v++[.seg g 0 (ay (List.replicate N v))])
  (λ t=>t.1<=N) (λ t=>N-t.1) (0,none,0) ⟨rfl,rfl,rfl,rfl,an⟩ ?_ (GI _) ?_
 ·exact aF.re (A:=[.own (.slice none 0 0) 334 9 0 [],blk ps 331 [.slice none 0 0,.int .i64 0],.seg g 0 (ay (List.replicate N v))]) (R:=[]) [1,0,2] rfl (by decide)
 rintro⟨k,A,cap⟩ hk;simp only at hk ⊢;refine ad (aa (ae [] rfl ?_));refine ad ?_;refine aC rfl (λ hlt=>aq ?_) (λ hge=>?_)
 ·have hkN:k<N:=by omega
  refine ad (av ?_);refine ad (aa ?_);refine ab [] (aG rfl hkN) rfl ?_;refine ab [] (ff (v:=.int .i64 v) 2 rfl rfl rfl (G6 _).symm (dw (by rw[GU,if_pos hkN]))) rfl ?_;refine ae [] rfl ?_;refine ad (ad (aa ?_));refine am (gs:=[999]) rfl ?_;refine am (gs:=[999]) rfl ?_;refine am (gs:=[999]) rfl ?_;refine bd 20 rfl (by omega) ?_;refine ah [2] rfl ?_;refine ae [] rfl ?_;refine aC rfl (λ h=>absurd h (by omega)) (λ _=>aq ?_);refine aa ?_;refine am (gs:=[999]) rfl ?_;refine am (gs:=[999]) rfl ?_;refine am (gs:=[999]) rfl ?_;refine am (gs:=[999]) rfl ?_;refine ab [] (v:=.slice A k cap) (af 0 rfl) rfl ?_
  refine ab [] (vO (fs:=[(0,1,0),(1,1,0)]) rfl rfl rfl rfl (λ i off sz ag h=>by
   match i with
   |0=>simp at h;omega
   |1=>simp at h;omega
   |i+2=>simp at h) rfl rfl) rfl ?_
  refine am (gs:=[999]) rfl ?_;refine am (gs:=[999]) rfl ?_;refine am (gs:=[999]) rfl ?_;refine ab [] (be rfl rfl rfl rfl rfl rfl) rfl ?_;refine bC rfl rfl rfl rfl rfl rfl rfl (λ _=>rfl) λ g2=>?_;refine bn (n:=k) (m:=1) (off:=0) (news:=ek (jE v)) 2 0 rfl rfl rfl rfl rfl rfl (by decide) rfl rfl (aD g2 _ _ (0,0)) (λ _=>rfl) rfl rfl (by omega) (by omega) (λ _ _=>rfl) λ A2 c2=>?_;refine am (gs:=[999]) rfl ?_;refine am (gs:=[999]) rfl ?_;refine aB 1 rfl [] rfl ?_;refine ai ?_;refine aa (ae [] rfl ?_);refine⟨(k+1,A2,c2),⟨?_,rfl,rfl,rfl,an⟩,?_,hkN,by show N-(k+1)<N-k;omega⟩
  ·show some (Value.int .i64 (IntKind.i64.wrap ((k:Int)+1)))=_;rw[b5 (by omega)];rfl
  ·refine aF.trans (aF.sub (Hg _ _)) ?_;show aF _ ([blk ps 331 [.slice A2 (k+1) c2,.int .i64 0],.own (.slice A2 (k+1) c2) 334 9 (k+1) (fx k (λ _=>jE v)++ek (jE v))]++[.seg g 0 (ay (List.replicate N v))]) _;rw[show fx k (λ _=>jE v)++ek (jE v)=fx (k+1) λ _=>jE v from (qK k _).symm];exact aF.refl
 ·obtain rfl:k=N:=by omega
  refine bv (a8 1 rfl) λ ⟨_,_,hA,_⟩=>?_;obtain⟨gn,rfl⟩:=hA (by omega);refine a9 ?_;refine ad (aa (ae [] rfl ?_));exact aA [0,1] (by decide) rfl (ax ⟨_,rfl,ps,gn,cap,rfl,rfl⟩)
set_option maxHeartbeats 1000000 in
theorem DU(v:Int)(hv:-4611686018427387904<=v/\v<=4611686018427387904)(N:Nat)(h1:1<=N)(hN:N<=3000)(g c:Nat):
 Fn 238 [.slice (some ⟨g,0,none⟩) N c] [] [.seg g 0 (ay (List.replicate N v))] λ r H'=>∃ pt ps gn go co cap,r=.tuple #[.pointer (some ⟨pt,0,none⟩),.int .i64 0]/\H'=js pt ps go gn co cap N ⟨λ _=>jE v,λ _=>none,0⟩:=by
 refine aH Tryz.func238 rfl rfl λ w0=>?_;refine ad (aa (ae [] rfl ?_));refine ad (aa ?_);refine am (gs:=[999]) rfl ?_;refine ao [] (DG v hv N h1 hN g c) rfl (by kernel_rfl) ⟨⟨0,_,by simp,rfl,ak _ _ _,au⟩,an⟩ (λ _=>rfl) ?_;rintro _ H' ⟨ps,gn,cap,rfl,rfl⟩;refine⟨rfl,?_⟩;refine ae [] rfl ?_;refine ad (ad (aa (ae [] rfl ?_)));refine aC rfl (λ h=>absurd rfl h) (λ _=>aq ?_);refine ad (aa ?_);refine am (gs:=[999]) rfl ?_;refine bC rfl rfl rfl rfl rfl rfl rfl (λ _=>rfl) λ g2=>?_;refine am (gs:=[999]) rfl ?_;refine am (gs:=[999]) rfl ?_;refine ao [] (Du (-1) g2 1 N h1 (by omega)) rfl (by kernel_rfl) ⟨⟨0,_,by simp,rfl,aD _ _ _ (0,0),.inr rfl⟩,an⟩ (λ _=>rfl) ?_;rintro _ H' ⟨go,rfl,rfl⟩;refine⟨rfl,?_⟩;refine ab [] (be rfl rfl rfl rfl rfl rfl) rfl ?_;refine am (gs:=[999]) rfl ?_;refine am (gs:=[999]) rfl ?_;refine ab [] (be rfl rfl rfl rfl rfl rfl) rfl ?_;refine bz rfl rfl rfl (λ _=>rfl) λ pt=>?_;refine ae [] rfl ?_;refine aA [3,4,0,1] (by decide) rfl (ax ⟨_,rfl,pt,ps,gn,go,N,cap,rfl,?_⟩)
 have e:ay (List.replicate N (-1))=AZ N (λ _=>none):=by
  unfold AZ
  congr 1
  apply H6
  intro i;rw[GU,GJ];by_cases h:i<N
  ·rw[if_pos h,List.getElem?_range h];rfl
  ·rw[if_neg h,Hb (by rw[HH];omega)];rfl
 rw[e];rfl
theorem fQ.new{N:Nat}{v:Int}(hv:-4611686018427387904<=v/\v<=4611686018427387904):fQ N ⟨λ _=>jE v,λ _=>none,0⟩ (λ _=>none) (λ _=>v) (λ x=>[x]):=by
 refine⟨⟨λ x hx=>?_,λ x _=>by simp,λ x hx y hy=>?_,λ x _ y hy=>?_,λ x _=>by simp,λ x _=>hv⟩,?_,?_,?_,?_,?_,?_⟩
 ·exact⟨.node .nil x v 0 false .nil,⟨⟨rfl,rfl,rfl,(b5 (n:=v) (by omega)).symm,rfl,rfl,rfl,⟨v,⟨⟨(x,v),by simp[T.flat],rfl⟩,λ e he=>by simp[T.flat,sh] at he;rw[he];exact HO _⟩,(b5 (n:=v) (by omega)).symm⟩,⟨v,⟨⟨(x,v),by simp[T.flat],rfl⟩,λ e he=>by simp[T.flat,sh] at he;rw[he];exact HO _⟩,(b5 (n:=v) (by omega)).symm⟩⟩,an,an⟩,rfl⟩
 ·rw[GF.1 hy];exact hx
 ·rw[GF.1 hy]
 ·exact⟨λ _ _=>trivial,λ _ _=>trivial,λ _ _=>trivial⟩
 ·intro x _ A u w B h;have:=Gz List.length h;simp at this;omega
 ·exact λ _ _ _ _ _=>rfl
 ·exact λ _ _ _ _ _ _ _=>rfl
 ·exact λ x _=>⟨[x],rfl,rfl⟩
 ·exact λ _ _=>trivial
def tR(N:aO)(A:OA)(c:Nat)(Ar:OA)(cr:Nat)(least:Int)(n gl gu:Nat)(fp:Value)(k w:Nat):LV_:=[.int .i64 N.nodes,.int .i64 N.src,.int .i64 N.snk,.slice A N.arcs.length c,.slice Ar (2*N.arcs.length) cr,.int .i64 least,.slice (some ⟨gl,0,none⟩) (n+1) (n+1),.slice (some ⟨gu,0,none⟩) (n+1) (n+1),fp,.int .i64 (dg k),.int .i64 (dg w)]
theorem z9(N:aO)(A:OA)(c:Nat)(Ar:OA)(cr:Nat)(least:Int)(n gl gu:Nat)(fp:Value)(k w pe:Nat):Fn 236 [.pointer (some ⟨pe,0,none⟩)] (aJ [blk pe 310 (tR N A c Ar cr least n gl gu fp k w)]) ([]++[blk pe 310 (tR N A c Ar cr least n gl gu fp k w)]) λ _ H'=>H'=[blk pe 310 (tR N A c Ar cr least n gl gu fp (k+1) w)]:=by
 generalize hM:aJ _=M
 refine aH Tryz.func236 rfl rfl λ w0=>?_;refine aa ?_
 (repeat' (first|refine am (gs:=[999]) rfl ?_|refine ab [999] (af 0 rfl) rfl ?_))
 refine aI 6 (v':=.int .i64 (dg ((k+1:Nat):Int))) rfl (Gz (Value.int .i64) (np _ _)) ?_
 (repeat' (refine am (gs:=[999]) rfl ?_))
 refine aB 0 rfl [] rfl ?_;exact ai ⟨_,rfl,rfl⟩
set_option maxHeartbeats 2000000 in
theorem ER(N:aO)(hR:N.Right)(A:OA)(c b o:Nat)(hA:N.arcs≠[]->A=some ⟨b,o,none⟩)(Ar:OA)(cr:Nat)(ls:LN)(hls:∀ r∈ls,r<2*N.arcs.length)(hll:ls.length<=4000)(B:OA)(cb bb ob:Nat)(hB:ls≠[]->B=some ⟨bb,ob,none⟩)(least:Int)(n:Nat)(hn:N.nodes=n):
 Fn 233 [bx N A c,.slice Ar (2*N.arcs.length) cr,.slice B ls.length cb,.int .i64 least] [] [.seg b o (arcs N.arcs),.seg bb ob (bO ls)]
  λ r H'=>∃ (pe gl gu pt ps gn go co cap:Nat) (rows:List ec),r=.pointer (some ⟨pe,0,none⟩)/\rows.length=n+1/\(∀ (v:Nat) (row:ec),rows[v]?=some row->row.l=(en N ls v).map λ (i:Nat)=>(i:Int))/\
   H'=(js pt ps go gn co cap (n+1) ⟨λ _=>jE 4611686018427387904,λ _=>none,0⟩++[blk pe 310 (tR N A c Ar cr least n gl gu (.pointer (some ⟨pt,0,none⟩)) ls.length 0),.own (.slice (some ⟨gl,0,none⟩) (n+1) (n+1)) 23 1 (n+1) (rows.map cA),.own (.slice (some ⟨gu,0,none⟩) (n+1) (n+1)) 23 1 (n+1) ((List.replicate (n+1) dx).map cA)])++(rows++List.replicate (n+1) dx).map (aV 3):=by
 have hnn:=hR.nodes;have hl2:=hR.len;refine aH Tryz.func233 rfl rfl λ w0=>?_;refine ad (aa ?_);refine bz (cs:=bJ N A c) rfl rfl rfl (λ _=>rfl) λ p=>?_;refine ae [] rfl ?_;refine jj (σ:=Nat×Nat×Nat) (λ t=>[(9,.pointer (some ⟨t.1,0,none⟩)),(21,.slice (some ⟨t.2.1,0,none⟩) (n+1) (n+1)),(25,.slice (some ⟨t.2.2,0,none⟩) (n+1) (n+1)),(2,.slice B ls.length cb),(4,.pointer (some ⟨p,0,none⟩))]) (λ t=>[blk t.1 310 (tR N A c Ar cr least n t.2.1 t.2.2 (.pointer none) 0 0),.own (.slice (some ⟨t.2.1,0,none⟩) (n+1) (n+1)) 23 1 (n+1) ((List.replicate (n+1) dx).map cA),.own (.slice (some ⟨t.2.2,0,none⟩) (n+1) (n+1)) 23 1 (n+1) ((List.replicate (n+1) dx).map cA),blk p 33 (bJ N A c),.seg b o (arcs N.arcs),.seg bb ob (bO ls)]) ?_ ?_
 ·refine rZ (Sf:=[blk p 33 (bJ N A c)]) ?_;refine sF [0,1,2,3,4,5,7,8,9] (by decide+kernel) [0] (by decide) rfl ?_
  (repeat' (first|refine bB (gs:=[999]) rfl rfl ?_|refine aj [999] rfl (af 0 rfl) rfl ?_))
  refine bp ?_;refine sj 20 (v':=.int .i64 ((n+1:Nat):Int)) rfl (Gz (Value.int .i64) ((b5 (n:=N.nodes+1) (by omega)).trans (by omega))) ?_;refine sj 24 (v':=.int .i64 ((n+1:Nat):Int)) rfl (Gz (Value.int .i64) ((b5 (n:=N.nodes+1) (by omega)).trans (by omega))) ?_;refine bS 6 [10] (by decide+kernel) (by decide) ?_
  (repeat' (first|exact an|refine bS 10 [] (by decide+kernel) (by decide) ?_|refine bS 6 [] (by decide+kernel) (by decide) ?_|refine bS 11 [] (by decide+kernel) (by decide) ?_|refine bS 12 [] (by decide+kernel) (by decide) ?_|refine bS 13 [] (by decide+kernel) (by decide) ?_|refine⟨⟨_,rfl,?_⟩,?_⟩|refine di (n:=n+1) (c:=n+1) rfl rfl rfl rfl rfl rfl (by omega) (by omega) (by omega) (λ _=>rfl) λ go=>?_|refine bz rfl rfl rfl (λ _=>rfl) λ pe=>?_|refine ab [] (be rfl rfl rfl rfl rfl rfl) rfl ?_|refine ai ⟨⟨[1],by decide,rfl⟩,?_⟩|refine ai ⟨⟨[2],by decide,rfl⟩,?_⟩|refine ai ⟨⟨[3],by decide,rfl⟩,?_⟩|refine ae [] rfl ⟨⟨[3],by decide,rfl⟩,?_⟩))
  all_goals refine kX (by decide+kernel) ⟨(_,_,_),⟨rfl,rfl,rfl,rfl,rfl,an⟩,?_⟩
  all_goals rw[show made [Value.slice none 0 0] ((n+1)*1)=(List.replicate (n+1) dx).map cA by rw[dm,Hf,HY];rfl]
  all_goals (first|exact aF.re (A:=[_,_,_,_,_,_]) (R:=[]) [0,2,1,3,4,5] rfl (by decide)|exact aF.re (A:=[_,_,_,_,_,_]) (R:=[]) [0,1,2,3,4,5] rfl (by decide))
 rintro⟨pe,gl,gu⟩;simp only;refine ad (aa (ae [] rfl ?_));refine ad (ad (aa (ae [] rfl ?_)));refine av ?_;refine bH (aF.nils 3 (n+1)) ?_
 refine b8 (σ:=Nat×List ec) (λ s=>[(32,.int .i64 (s.1:Int)),(31,.int .i64 (ls.length:Int)),(30,.slice B ls.length cb),(10,.func (.func 236) #[.pointer (some ⟨pe,0,none⟩)] #[]),(9,.pointer (some ⟨pe,0,none⟩)),(4,.pointer (some ⟨p,0,none⟩))])
  (λ s=>[blk pe 310 (tR N A c Ar cr least n gl gu (.pointer none) s.1 0),.own (.slice (some ⟨gl,0,none⟩) (n+1) (n+1)) 23 1 (n+1) (s.2.map cA),.own (.slice (some ⟨gu,0,none⟩) (n+1) (n+1)) 23 1 (n+1) ((List.replicate (n+1) dx).map cA),blk p 33 (bJ N A c),.seg b o (arcs N.arcs),.seg bb ob (bO ls)]++s.2.map (aV 3))
  (λ s=>s.1<=ls.length/\s.2.length=n+1/\∀ (v:Nat) (r:ec),s.2[v]?=some r->r.l=(en N (ls.take s.1) v).map λ (i:Nat)=>(i:Int)) (λ s=>ls.length-s.1)
  (0,List.replicate (n+1) dx) ⟨rfl,rfl,rfl,rfl,rfl,rfl,an⟩ aF.refl ⟨GI _,by simp,λ v r h=>?_⟩ ?_
 ·rw[GU] at h;split at h
  ·simp only[GA] at h;subst h;rfl
  ·cases h
 rintro⟨k,rows⟩ ⟨hk,hrows,htr⟩;simp only at hk hrows htr ⊢;refine ad (aa (ae [] rfl ?_));refine ad (aC rfl (λ hlt=>aq ?_) (λ hge=>a9 ?_))
 ·have hlt:k<ls.length:=by omega
  obtain⟨r,hr⟩:∃ r,ls[k]?=some r:=⟨ls[k],Gy hlt⟩;have hrl:=hls r (GB hr);obtain⟨he,hf1,hf2⟩:=kN hR hrl;obtain⟨v,hv⟩:∃ v,dG N r=v:=⟨_,rfl⟩;rw[hv] at he hf1 hf2;obtain rfl:=hB (by rintro rfl;simp at hlt);have hvn:v<rows.length:=by omega
  obtain⟨row,hrow⟩:∃ r,rows[v]?=some r:=⟨rows[v],Gy hvn⟩;have hrl':=htr v row hrow;have hlen:=i8 N (ls.take k) v;have htake:(ls.take k).length<=ls.length:=by rw[G2];omega
  have hrowl:row.l.length=(en N (ls.take k) v).length:=by rw[hrl',GH]
  have htk:ls.take (k+1)=ls.take k++[r]:=by rw[GW,hr];rfl
  refine ad (av ?_);refine ad (aa (ah [] rfl ?_));refine ab [] (bZ rfl hlt) rfl ?_;refine ab [] (bc 5 rfl rfl (dq hr)) rfl ?_;refine ae [] rfl ?_;refine ad (aa ?_);refine am (gs:=[999]) rfl ?_;refine aw (fst:=[.pointer (some ⟨pe,0,none⟩)]) (cap:=[]) [999] (z9 N A c Ar cr least n gl gu (.pointer none) k 0 pe) rfl rfl rfl rfl (by kernel_rfl) aF.refl an (λ _=>rfl) ?_;rintro v0 H' rfl;refine⟨rfl,?_⟩;refine ai ?_;refine ad (aa ?_);refine ab [] (v:=bx N A c) (af 3 rfl) rfl ?_;refine ah [] rfl ?_;refine ao [] (gz N A c b o hA hl2 r hrl) rfl (by kernel_rfl) ⟨⟨4,_,by simp,rfl,ak _ _ _,au⟩,an⟩ (λ _=>rfl) ?_;rintro v' H' ⟨rfl,rfl⟩;refine⟨rfl,?_⟩;refine ae [] rfl ?_;refine aX 13 (v':=.int .i64 (v:Int)) rfl (Gz (Value.int .i64) he) ?_;show J _ _ _ _ ([_,_,_,_,_,_]++rows.map (aV 3));refine bH (aF.front (i:=v) (c:=aV 3 row) (by rw[GJ,hrow];rfl)) ?_;refine bq 16 (cY [0,1,2,3,4,5,6,7,8,9,10,11,12]++[(13,false),(14,false)]++cY [15]) [1,2] (by kernel_rfl) (by decide) rfl ?_;refine az [] rfl ?_;refine aj [] rfl (af (v:=.slice (some ⟨gl,0,none⟩) (n+1) (n+1)) 0 rfl) rfl ?_;refine az [] rfl ?_;refine aj [] rfl (af (v:=.slice (some ⟨gl,0,none⟩) (n+1) (n+1)) 0 rfl) rfl ?_;refine az [] rfl ?_;refine aj [] rfl (aG rfl (by omega)) rfl ?_;refine aj [] rfl (aE (v:=cA row) 1 rfl rfl rfl (show (rows.map cA)[v]?=some (cA row) by rw[GJ,hrow];rfl)) rfl ?_;refine az [] rfl ?_;refine aY rfl ?_;refine bC rfl rfl rfl rfl rfl rfl rfl (λ _=>rfl) λ g2=>?_;refine ai ⟨⟨[2,3],by decide,rfl⟩,?_⟩;refine aY rfl ?_;refine bn (n:=row.l.length) (m:=1) (off:=0) (news:=ay [(r:Int)]) 1 0 rfl rfl rfl rfl rfl rfl (by decide) rfl rfl (aD g2 _ _ (0,0)) (λ _=>rfl) rfl rfl (by omega) (by omega) (λ _ _=>rfl) λ A2 c2=>?_;rw[show row.l.length+1=(row.l++[(r:Int)]).length by simp,show ay row.l++ay [(r:Int)]=ay (row.l++[(r:Int)]) by simp[ay]];refine ai ⟨⟨[2,3],by decide,rfl⟩,?_⟩;refine aj [] rfl (aG rfl (by omega)) rfl ?_;refine bp ?_;refine aS 3 rfl rfl rfl rfl (dC rfl rfl rfl (by rw[GH];omega)) [] rfl ?_;refine ai ?_;refine aa (ae [] rfl ?_);refine⟨(k+1,rows.set v ⟨A2,c2,row.l++[(r:Int)]⟩),⟨?_,rfl,rfl,rfl,rfl,rfl,an⟩,?_,⟨by simp only;omega,by simp only[Hp];omega,λ u q hu=>?_⟩,by simp only;omega⟩
  ·show some (Value.int .i64 (IntKind.i64.wrap ((k:Int)+1)))=_;rw[b5 (by omega)];rfl
  ·simp only[Iv];refine aF.trans (aF.sub (Hg _ _)) (aF.back (A:=[_,_,_,_,_,_]) (by rw[GH];exact hvn))
  ·simp only at hu ⊢;rw[htk,tI,G5];by_cases huv:v=u
   ·subst huv;rw[GO hvn] at hu;simp only[GA] at hu;rw[<- hu,if_pos hv,hrl'];rfl
   ·rw[GR huv] at hu;rw[if_neg (λ e=>huv (hv.symm.trans e)),HC,Hc];exact htr u q hu
 ·obtain rfl:k=ls.length:=by omega
  rw[G8] at htr;refine bH (aF.nils 3 (n+1)) ?_;rw[Hd,<- G5];obtain⟨R,hR2⟩:∃ R,R=(rows++List.replicate (n+1) dx).map (aV 3):=⟨_,rfl⟩;rw[<- hR2];refine ad (aa ?_);refine am (gs:=[999]) rfl ?_;refine bC rfl rfl rfl rfl rfl rfl rfl (λ _=>rfl) λ g2=>?_;refine am (gs:=[999]) rfl ?_;refine ab [] (v:=.int .i64 N.nodes) (af 4 rfl) rfl ?_;refine am (gs:=[999]) rfl ?_;refine aI 66 (v':=.int .i64 ((n+1:Nat):Int)) rfl (Gz (Value.int .i64) ((b5 (n:=N.nodes+1) (by omega)).trans (by omega))) ?_;refine ao [] (DH 4611686018427387904 g2 1 (n+1) (by omega) (by omega)) rfl (by kernel_rfl) ⟨⟨0,_,by simp,rfl,aD _ _ _ (0,0),.inr rfl⟩,an⟩ (λ _=>rfl) ?_;rintro _ H' ⟨g3,rfl,rfl⟩;refine⟨rfl,?_⟩;refine ao [] (DU 4611686018427387904 (by decide) (n+1) (by omega) (by omega) g3 (n+1)) rfl (by kernel_rfl) ⟨⟨0,_,by simp,rfl,cD,.inr rfl⟩,an⟩ (λ _=>rfl) ?_;rintro _ H' ⟨pt,ps,gn,go,co,cap,rfl,rfl⟩;refine⟨rfl,?_⟩;refine am (gs:=[999]) rfl ?_;refine am (gs:=[999]) rfl ?_;refine am (gs:=[999]) rfl ?_;refine am (gs:=[999]) rfl ?_;refine am (gs:=[999]) rfl ?_;refine aB 6 rfl [] rfl ?_;refine ai ?_;refine ad (aa (ae [] rfl ?_))
  refine bH (aF.re (A:=js pt ps go gn co cap (n+1) ⟨λ _=>jE 4611686018427387904,λ _=>none,0⟩++[.own (.slice (some ⟨g3,0,none⟩) (n+1) (n+1)) 2 1 (n+1) (ay (List.replicate (n+1) 4611686018427387904)),blk g2 2 [.int .i64 4611686018427387904],blk pe 310 (tR N A c Ar cr least n gl gu (.pointer (some ⟨pt,0,none⟩)) ls.length 0),
   .own (.slice (some ⟨gl,0,none⟩) (n+1) (n+1)) 23 1 (n+1) (rows.map cA),.own (.slice (some ⟨gu,0,none⟩) (n+1) (n+1)) 23 1 (n+1) ((List.replicate (n+1) dx).map cA),blk p 33 (bJ N A c),.seg b o (arcs N.arcs),.seg bb ob (bO ls)]) (R:=R) [0,1,2,3,6,7,8] rfl (by decide)) ?_
  exact ax ⟨_,rfl,pe,gl,gu,pt,ps,gn,go,co,cap,rows,rfl,hrows,htr,by rw[hR2];rfl⟩
end Go.Proofs.YtmcnpaelaieniaaGreatDoor
