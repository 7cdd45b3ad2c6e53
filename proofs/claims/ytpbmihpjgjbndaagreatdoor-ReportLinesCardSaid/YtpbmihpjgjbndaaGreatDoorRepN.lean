/- A row of one entry, repeated. -/
import Derived.Test.YtpbmihpjgjbndaaGreatDoorQX45
import Derived.Test.YtpbmihpjgjbndaaGreatDoorQB
import Derived.Test.YtpbmihpjgjbndaaGreatDoorQA
set_option linter.unusedVariables false
set_option linter.unusedSimpArgs false
namespace Go.Proofs.YtpbmihpjgjbndaaGreatDoor
open Go.RowKit
theorem sc {X:Cx} {E:Env} {H:Heap} {o:Oper} {t n e s by_ s1 by':Nat} {z:Value} {z':Option Value} {uk:UK} {fs:List (Nat×Nat×Nat)} {zs cs:List Value} {ps:Array (Nat×Operand)} {vs:List (Nat×Value)} (ho:o.op=.build t ps) (ht:tab t=some ⟨.arr n e,s,by_,some z⟩) (he:tab e=some ⟨uk,s1,by',z'⟩) (hz:z.cells=zs.toArray)
 (hfs:∀ i off sz ag,fs[i]?=some (off,sz,ag)→off=i*s1∧sz=s1) (hp:lO E ps.toList=some vs) (hb:kX fs zs vs=some cs):gW X o E H (.agg cs.toArray):=by
 intro a w hA hH
 obtain⟨j,hi,hjz,_,_⟩:=fG ht
 have hu:Tryz.prog.underlying t=some (.array n e):=by
  obtain⟨d,j,hd,_,hu,_⟩:=cZ ht
  rw[hd];cases d<;>simp[jP] at hu ⊢;exact hu
 have e1:=hA.valsP _ _ hp
 have e2:(ps.map fun (i,x)=>(i,a.eval x)).toList=vs:=by rw[← e1];simp
 have hfill:=jN (pl:=fun i=>some (i*s1,s1)) (fun i off sz ag h=>by obtain⟨h1,h2⟩:=hfs i off sz ag h;rw[h1,h2]) vs zs cs hb
 have hsz:(sizeOf e).run Tryz.prog w=.ok s1 w:=cA he w
 have hrun:(Instr.build t (ps.map fun (i,x)=>(i,a.eval x))).run Tryz.prog w=.ok (.agg cs.toArray) w:=by
  unfold Instr.build
  rw[e2]
  have hz1:(zeroValue t).run Tryz.prog w=.ok z w:=by simp[zeroValue,typeInfo,hi,hjz]
  simp only[Sem.run_bind,hz1,run_underlying hu,Result.andThen_ok,hsz,hz]
  rw[hfill]
  rfl
 have hrun':(Instr.build t (ps.map fun x=>match x with|(i,x)=>(i,a.eval x))).run Tryz.prog w=.ok (.agg cs.toArray) w:=hrun
 simp[execOp,ho,hrun']
theorem y4 {n:Nat} (h:n<18446744073709551616):IntKind.u64.wrap (n:Int)=n:=by rw[IntKind.wrap_u64];omega
theorem vF {n:Nat} (h:n<4294967296):IntKind.u64.wrap (((BitVec.ofInt IntKind.u64.bits (n:Int)&&& BitVec.ofInt IntKind.u64.bits 4294967295).toNat:Nat):Int)=n:=by
 have h1:(BitVec.ofInt IntKind.u64.bits (n:Int)).toNat=n:=by
  show (BitVec.ofInt 64 (n:Int)).toNat=n
  rw[BitVec.toNat_ofInt];omega
 have h2:(BitVec.ofInt IntKind.u64.bits 4294967295).toNat=4294967295:=by decide
 rw[BitVec.toNat_and,h1,h2,show (4294967295:Nat)=2^32-1 by decide,Nat.and_two_pow_sub_one_eq_mod,y4 (by omega)]
 omega
theorem p5 {n:Nat} (h:n<4294967296):((n:Int)).fdiv (2^(min 32 IntKind.u64.bits))=0:=by
 show ((n:Int)).fdiv 4294967296=0
 rw[Int.fdiv_eq_ediv_of_nonneg _ (by omega)];omega
theorem wv (n:Nat) (hn:n<4294967296):Fn 273 [.int .u64 ((1:Nat):Int),.int .u64 (n:Int)] [] [] fun v H'=>v=.tuple #[.int .u64 ((0:Nat):Int),.int .u64 (n:Int)]∧H'=[]:=by
 refine aS Tryz.func273 rfl rfl fun w0=>?_
 refine ad (aa (ae [] rfl ?_))
 refine ad (aa (ae [] rfl ?_))
 refine aP 6 (v':=.int .u64 ((1:Nat):Int)) rfl (congrArg (Value.int .u64) (vF (by decide))) ?_
 refine ad (aa (ae [] rfl ?_))
 refine aP 7 (v':=.int .u64 ((0:Nat):Int)) rfl (congrArg (Value.int .u64) (p5 (n:=1) (by decide))) ?_
 refine ad (aa (ae [] rfl ?_))
 refine aP 8 (v':=.int .u64 (n:Int)) rfl (congrArg (Value.int .u64) (vF hn)) ?_
 refine ad (aa (ae [] rfl ?_))
 refine aP 9 (v':=.int .u64 ((0:Nat):Int)) rfl (congrArg (Value.int .u64) (p5 hn)) ?_
 refine ad (aa (ae [] rfl ?_))
 refine aP 10 (v':=.int .u64 (n:Int)) rfl (congrArg (Value.int .u64) ((congrArg _ (Int.one_mul _)).trans (y4 (by omega)))) ?_
 refine ad (aa (ae [] rfl ?_))
 refine aP 11 (v':=.int .u64 ((0:Nat):Int)) rfl (congrArg (Value.int .u64) (by
  show IntKind.u64.wrap (IntKind.u64.wrap (0*(n:Int))+((n:Int)).fdiv (2^(min 32 IntKind.u64.bits)))=0
  rw[Int.zero_mul,p5 hn];decide)) ?_
 refine ad (aa (ae [] rfl ?_))
 refine aP 12 (v':=.int .u64 ((0:Nat):Int)) rfl (congrArg (Value.int .u64) (vF (n:=0) (by decide))) ?_
 refine ad (aa (ae [] rfl ?_))
 refine aP 13 (v':=.int .u64 ((0:Nat):Int)) rfl (congrArg (Value.int .u64) (p5 (n:=0) (by decide))) ?_
 refine ad (aa (ae [] rfl ?_))
 refine aP 12 (v':=.int .u64 ((0:Nat):Int)) rfl (congrArg (Value.int .u64) (by
  show IntKind.u64.wrap (0+IntKind.u64.wrap (1*0))=0
  decide)) ?_
 refine ad (aa (ae [] rfl ?_))
 refine aP 4 (v':=.int .u64 ((0:Nat):Int)) rfl (congrArg (Value.int .u64) (by
  show IntKind.u64.wrap (IntKind.u64.wrap (IntKind.u64.wrap (0*0)+0)+((0:Nat):Int).fdiv (2^(min 32 IntKind.u64.bits)))=0
  rw[p5 (n:=0) (by decide)];decide)) ?_
 refine ad (aa (ae [] rfl ?_))
 refine aP 5 (v':=.int .u64 (n:Int)) rfl (congrArg (Value.int .u64) ((congrArg _ (Int.one_mul _)).trans (y4 (by omega)))) ?_
 exact aB ⟨_,rfl,rfl,rfl⟩
theorem sQ (n:Nat) (hn:n<4294967296):Fn 261 [.int .u64 ((1:Nat):Int),.int .u64 (n:Int)] [] [] fun v H'=>v=.tuple #[.int .u64 ((0:Nat):Int),.int .u64 (n:Int)]∧H'=[]:=by
 refine aS Tryz.func261 rfl rfl fun w0=>?_
 refine ad (aa (ae [] rfl ?_))
 refine ad ?_
 refine bI rfl ?_
 refine av (ad (aa (ah [] rfl ?_)))
 refine ax [] (wv n hn) rfl rfl rfl rfl (by kernel_rfl) trivial (fun _=>rfl) ?_
 rintro v H' ⟨rfl,rfl⟩
 refine⟨rfl,?_⟩
 refine ae [] rfl ?_
 refine ad (aa (ae [] rfl ?_))
 exact aB ⟨_,rfl,rfl,rfl⟩
def ia (k N:Nat) (v z:Value):List Value:=List.replicate k v++List.replicate (N-k) z
theorem gi {k N:Nat} {v z:Value} (h:k≤N):(ia k N v z).length=N:=by simp[ia];omega
theorem pr {k m N:Nat} {v z:Value} (h:k+m≤N):wr (ia k N v z) k (List.replicate m v)=ia (k+m) N v z:=by
 induction m generalizing k with
 |zero=>rfl
 |succ m ih=>
  rw[List.replicate_succ]
  show wr ((ia k N v z).set k v) (k+1) (List.replicate m v)=_
  have:(ia k N v z).set k v=ia (k+1) N v z:=by
   unfold ia
   rw[List.set_append_right _ _ (by simp),List.length_replicate,Nat.sub_self,show N-k=(N-(k+1))+1 by omega,List.replicate_succ,List.set_cons_zero,List.replicate_succ']
   simp
  rw[this,ih (by omega),show k+1+m=k+(m+1) by omega]
set_option maxHeartbeats 1000000 in
theorem xD (x:Int) (g c n:Nat) (h1:1≤n) (hn:n≤100000):
 Fn 260 [.slice (some ⟨g,0,none⟩) 1 c,.int .i64 (n:Int)] [] [.seg g 0 (ap [x])] fun v H'=>∃ g',v=.slice (some ⟨g',0,none⟩) n n∧H'=[.own (.slice (some ⟨g',0,none⟩) n n) 3 1 n (ap (List.replicate n x))]:=by
 refine aS Tryz.func260 rfl rfl fun w0=>?_
 refine ad (aa (ae [] rfl ?_))
 refine ad (ad (aa (ae [] rfl ?_)))
 refine aC rfl (fun h=>absurd h (by omega)) (fun _=>av ?_)
 refine ad (aa ?_)
 refine ak (gs:=[999]) rfl ?_
 refine ak (gs:=[999]) rfl ?_
 refine ak (gs:=[999]) rfl ?_
 refine aw 15 (v':=.int .u64 ((1:Nat):Int)) rfl (congrArg (Value.int .u64) (y4 (n:=1) (by decide))) ?_
 refine ak (gs:=[999]) rfl ?_
 refine ak (gs:=[999]) rfl ?_
 refine aw 17 (v':=.int .u64 (n:Int)) rfl (congrArg (Value.int .u64) (y4 (by omega))) ?_
 refine ax [] (sQ n (by omega)) rfl rfl rfl rfl (by kernel_rfl) trivial (fun _=>rfl) ?_
 rintro v H' ⟨rfl,rfl⟩
 refine⟨rfl,?_⟩
 refine ae [] rfl ?_
 refine ad (ad (aa ?_))
 refine ak (gs:=[999]) rfl ?_
 refine ak (gs:=[999]) rfl ?_
 refine ak (gs:=[999]) rfl ?_
 refine aw 23 (v':=.bool false) rfl (congrArg Value.bool (aA (by decide))) ?_
 refine ah [2] rfl ?_
 refine ae [] rfl ?_
 refine aC rfl (fun h=>absurd h (by omega)) (fun _=>av ?_)
 refine ad (aa ?_)
 refine ak (gs:=[999]) rfl ?_
 refine ak (gs:=[999]) rfl ?_
 refine aw 29 (v':=.int .i64 (n:Int)) rfl (congrArg (Value.int .i64) (bU (by omega))) ?_
 refine dv (n:=n) (c:=n) rfl rfl rfl rfl rfl rfl (Nat.le_refl _) (by omega) (by omega) (fun _=>rfl) fun g'=>?_
 have hmk:made [Value.int .i64 0] (n*1)=ia 0 n (.int .i64 x) (.int .i64 0):=by rw[dn,Nat.mul_one];simp[ia]
 rw[hmk]
 refine ae [] rfl ?_
 refine ad (aa ?_)
 refine ak (gs:=[999]) rfl ?_
 refine ak (gs:=[999]) rfl ?_
 refine l9 (i:=0) (vs:=List.replicate 1 (.int .i64 x)) 0 1 rfl rfl rfl rfl rfl (aq _ _ _) rfl rfl (by show 1=Nat.min 1 n;exact (Nat.min_eq_left h1).symm) rfl (by rw[gi (Nat.zero_le _),List.length_replicate];omega) [] rfl ?_
 rw[pr (by omega)]
 refine ae [] rfl ?_
 refine ad (au ?_)
 refine bq (σ:=Nat) (fun k=>[(8,.int .i64 (k:Int)),(7,.slice (some ⟨g',0,none⟩) n n)]) (fun k=>[.own (.slice (some ⟨g',0,none⟩) n n) 3 1 n (ia k n (.int .i64 x) (.int .i64 0))]) (fun k=>1≤k∧k≤n) (fun k=>n-k) 1 [0] ⟨rfl,rfl,trivial⟩ (by decide) rfl ⟨Nat.le_refl _,h1⟩ ?_
 rintro k ⟨hk1,hk2⟩
 refine ad (ad (aa (ae [] rfl ?_)))
 refine aC rfl (fun hlt=>av ?_) (fun hge=>aV ?_)
 ·have hkn:k<n:=by omega
  obtain⟨m,hm⟩:∃ m,m=min k (n-k):=⟨_,rfl⟩
  refine au ?_
  refine bp 10 [(0,true),(1,true),(2,true),(3,true),(4,true),(5,true),(6,true),(7,false),(8,true),(9,true)] [] (by kernel_rfl) (by decide) rfl ?_
  refine aZ (gs:=[999]) rfl rfl ?_
  refine aZ (gs:=[999]) rfl rfl ?_
  refine aZ (gs:=[999]) rfl rfl ?_
  refine aj [999] rfl (eL (i:=k) rfl rfl rfl rfl rfl hk2) rfl ?_
  refine cE 41 (v':=.slice (some ⟨g',k,none⟩) (n-k) (n-k)) rfl ?_ ?_
  ·have:=jc (A:=some ⟨g',0,none⟩) (c:=n) (l:=k) (n:=n) (sz:=1) (b:=g') (o:=0) (fun _=>rfl) (Nat.le_refl _) hkn
   rw[Nat.mul_one,Nat.zero_add] at this
   show Value.slice (ij _ _ _ 1) _ _=_
   rw[this]
  refine aZ (gs:=[999]) rfl rfl ?_
  refine aZ (gs:=[999]) rfl rfl ?_
  refine aj [999] rfl (fg (i:=k) rfl rfl rfl rfl rfl hk2) rfl ?_
  refine a6 rfl ?_
  refine l9 (i:=k) (vs:=List.replicate m (.int .i64 x)) 0 0 rfl rfl rfl rfl rfl (fun w hw i v hi=>bX w hw i v (?_)) rfl rfl (by rw[List.length_replicate];exact hm) (?_) (by rw[gi hk2,List.length_replicate];omega) [] rfl ?_
  ·have h2:=(List.getElem?_eq_some_iff.1 hi).1
   rw[List.length_replicate] at h2
   rw[List.getElem?_replicate,if_pos h2] at hi
   unfold ia
   rw[List.getElem?_append_left (by rw[List.length_replicate];omega),List.getElem?_replicate,if_pos (by omega)]
   exact hi
  ·clear hm
   induction m with
   |zero=>rfl
   |succ m ih=>rw[List.replicate_succ];exact ih
  rw[pr (by omega),List.length_replicate]
  refine ai ⟨⟨[],by decide,rfl⟩,?_⟩
  refine aZ (gs:=[999]) rfl rfl ?_
  refine aZ (gs:=[999]) rfl rfl ?_
  refine bv ?_
  refine ai ?_
  refine⟨k+m,[0],⟨?_,rfl,trivial⟩,by decide,rfl,⟨by omega,by omega⟩,by omega⟩
  show some (Value.int .i64 (IntKind.i64.wrap ((k:Int)+(m:Int))))=_
  rw[bU (by omega)];rfl
 ·obtain rfl:k=n:=by omega
  refine ad (aa (ae [] rfl ?_))
  refine aB ⟨_,rfl,g',rfl,?_⟩
  rw[show ia k k (.int .i64 x) (.int .i64 0)=ap (List.replicate k x) by simp[ia,ap]]
set_option maxHeartbeats 1000000 in
theorem x3 (x:Int) (g c n:Nat) (h1:1≤n) (hn:n≤100000):
 Fn 252 [.slice (some ⟨g,0,none⟩) 1 c,.int .i64 (n:Int)] [] [.seg g 0 (ap [x])] fun v H'=>∃ g',v=.slice (some ⟨g',0,none⟩) n n∧H'=[.own (.slice (some ⟨g',0,none⟩) n n) 2 1 n (ap (List.replicate n x))]:=by
 refine aS Tryz.func252 rfl rfl fun w0=>?_
 refine ad (aa (ae [] rfl ?_))
 refine ad (ad (aa (ae [] rfl ?_)))
 refine aC rfl (fun h=>absurd h (by omega)) (fun _=>av ?_)
 refine ad (aa ?_)
 refine ak (gs:=[999]) rfl ?_
 refine ak (gs:=[999]) rfl ?_
 refine ak (gs:=[999]) rfl ?_
 refine aw 15 (v':=.int .u64 ((1:Nat):Int)) rfl (congrArg (Value.int .u64) (y4 (n:=1) (by decide))) ?_
 refine ak (gs:=[999]) rfl ?_
 refine ak (gs:=[999]) rfl ?_
 refine aw 17 (v':=.int .u64 (n:Int)) rfl (congrArg (Value.int .u64) (y4 (by omega))) ?_
 refine ax [] (sQ n (by omega)) rfl rfl rfl rfl (by kernel_rfl) trivial (fun _=>rfl) ?_
 rintro v H' ⟨rfl,rfl⟩
 refine⟨rfl,?_⟩
 refine ae [] rfl ?_
 refine ad (ad (aa ?_))
 refine ak (gs:=[999]) rfl ?_
 refine ak (gs:=[999]) rfl ?_
 refine ak (gs:=[999]) rfl ?_
 refine aw 23 (v':=.bool false) rfl (congrArg Value.bool (aA (by decide))) ?_
 refine ah [2] rfl ?_
 refine ae [] rfl ?_
 refine aC rfl (fun h=>absurd h (by omega)) (fun _=>av ?_)
 refine ad (aa ?_)
 refine ak (gs:=[999]) rfl ?_
 refine ak (gs:=[999]) rfl ?_
 refine aw 29 (v':=.int .i64 (n:Int)) rfl (congrArg (Value.int .i64) (bU (by omega))) ?_
 refine dv (n:=n) (c:=n) rfl rfl rfl rfl rfl rfl (Nat.le_refl _) (by omega) (by omega) (fun _=>rfl) fun g'=>?_
 have hmk:made [Value.int .i64 0] (n*1)=ia 0 n (.int .i64 x) (.int .i64 0):=by rw[dn,Nat.mul_one];simp[ia]
 rw[hmk]
 refine ae [] rfl ?_
 refine ad (aa ?_)
 refine ak (gs:=[999]) rfl ?_
 refine ak (gs:=[999]) rfl ?_
 refine l9 (i:=0) (vs:=List.replicate 1 (.int .i64 x)) 0 1 rfl rfl rfl rfl rfl (aq _ _ _) rfl rfl (by show 1=Nat.min 1 n;exact (Nat.min_eq_left h1).symm) rfl (by rw[gi (Nat.zero_le _),List.length_replicate];omega) [] rfl ?_
 rw[pr (by omega)]
 refine ae [] rfl ?_
 refine ad (au ?_)
 refine bq (σ:=Nat) (fun k=>[(8,.int .i64 (k:Int)),(7,.slice (some ⟨g',0,none⟩) n n)]) (fun k=>[.own (.slice (some ⟨g',0,none⟩) n n) 2 1 n (ia k n (.int .i64 x) (.int .i64 0))]) (fun k=>1≤k∧k≤n) (fun k=>n-k) 1 [0] ⟨rfl,rfl,trivial⟩ (by decide) rfl ⟨Nat.le_refl _,h1⟩ ?_
 rintro k ⟨hk1,hk2⟩
 refine ad (ad (aa (ae [] rfl ?_)))
 refine aC rfl (fun hlt=>av ?_) (fun hge=>aV ?_)
 ·have hkn:k<n:=by omega
  obtain⟨m,hm⟩:∃ m,m=min k (n-k):=⟨_,rfl⟩
  refine au ?_
  refine bp 10 [(0,true),(1,true),(2,true),(3,true),(4,true),(5,true),(6,true),(7,false),(8,true),(9,true)] [] (by kernel_rfl) (by decide) rfl ?_
  refine aZ (gs:=[999]) rfl rfl ?_
  refine aZ (gs:=[999]) rfl rfl ?_
  refine aZ (gs:=[999]) rfl rfl ?_
  refine aj [999] rfl (eL (i:=k) rfl rfl rfl rfl rfl hk2) rfl ?_
  refine cE 41 (v':=.slice (some ⟨g',k,none⟩) (n-k) (n-k)) rfl ?_ ?_
  ·have:=jc (A:=some ⟨g',0,none⟩) (c:=n) (l:=k) (n:=n) (sz:=1) (b:=g') (o:=0) (fun _=>rfl) (Nat.le_refl _) hkn
   rw[Nat.mul_one,Nat.zero_add] at this
   show Value.slice (ij _ _ _ 1) _ _=_
   rw[this]
  refine aZ (gs:=[999]) rfl rfl ?_
  refine aZ (gs:=[999]) rfl rfl ?_
  refine aj [999] rfl (fg (i:=k) rfl rfl rfl rfl rfl hk2) rfl ?_
  refine a6 rfl ?_
  refine l9 (i:=k) (vs:=List.replicate m (.int .i64 x)) 0 0 rfl rfl rfl rfl rfl (fun w hw i v hi=>bX w hw i v (?_)) rfl rfl (by rw[List.length_replicate];exact hm) (?_) (by rw[gi hk2,List.length_replicate];omega) [] rfl ?_
  ·have h2:=(List.getElem?_eq_some_iff.1 hi).1
   rw[List.length_replicate] at h2
   rw[List.getElem?_replicate,if_pos h2] at hi
   unfold ia
   rw[List.getElem?_append_left (by rw[List.length_replicate];omega),List.getElem?_replicate,if_pos (by omega)]
   exact hi
  ·clear hm
   induction m with
   |zero=>rfl
   |succ m ih=>rw[List.replicate_succ];exact ih
  rw[pr (by omega),List.length_replicate]
  refine ai ⟨⟨[],by decide,rfl⟩,?_⟩
  refine aZ (gs:=[999]) rfl rfl ?_
  refine aZ (gs:=[999]) rfl rfl ?_
  refine bv ?_
  refine ai ?_
  refine⟨k+m,[0],⟨?_,rfl,trivial⟩,by decide,rfl,⟨by omega,by omega⟩,by omega⟩
  show some (Value.int .i64 (IntKind.i64.wrap ((k:Int)+(m:Int))))=_
  rw[bU (by omega)];rfl
 ·obtain rfl:k=n:=by omega
  refine ad (aa (ae [] rfl ?_))
  refine aB ⟨_,rfl,g',rfl,?_⟩
  rw[show ia k k (.int .i64 x) (.int .i64 0)=ap (List.replicate k x) by simp[ia,ap]]
end Go.Proofs.YtpbmihpjgjbndaaGreatDoor
