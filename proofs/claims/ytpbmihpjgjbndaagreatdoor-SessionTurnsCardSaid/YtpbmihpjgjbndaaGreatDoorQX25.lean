/- The engine and the words that all chapters share: several texts in one. -/
import Derived.Test.YtpbmihpjgjbndaaGreatDoorEngS
import Derived.Test.YtpbmihpjgjbndaaGreatDoorScaleP
import Derived.Test.YtpbmihpjgjbndaaGreatDoorQA
import Derived.Test.YtpbmihpjgjbndaaGreatDoorQB
/- The halves of a number, one by one. -/
set_option linter.unusedVariables false
set_option linter.unusedSimpArgs false
namespace Go.Proofs.YtpbmihpjgjbndaaGreatDoor
open Go.RowKit
theorem uA (n:Int):Fn 73 [.int .i64 n] [] [] fun v H'=>∃ p,v=.func (.func 114) #[] #[.pointer (some ⟨p,0,none⟩)]∧H'=[blk p 2 [.int .i64 n]]:=by
 refine aK Tryz.func73 rfl rfl fun w0=>?_
 refine ad (aa ?_)
 refine br rfl rfl rfl (fun _=>rfl) fun b=>?_
 refine ae [] rfl ?_
 refine ad (aa (ae [] rfl ?_))
 exact ay ⟨_,rfl,b,rfl,rfl⟩
section
variable {G:Nat→World→Prop} {n:Nat} {E:Env} {k nr l:Nat} {x:Nat→List Value} {ops:List Oper} {R:Exit→Act→World→Prop}
theorem tA {l2:List Oper} {o:Oper} {f:Operand} {args:Array Operand} {ts:Array TypeId} {E':Env} (gs:List Nat) (hY:∀ k W,k<nr→G k W→YieldAt Fence.wide 0 Tryz.prog l (x k).toArray W fun e W'=>e=.returned (.bool true)∧G (k+1) W') (hk:k<nr)
 (ho:o.op=.call ⟨.value f,args,ts⟩) (hf:val E f=some (.func (.yield l) #[] #[])) (ha:vals E args.toList=some (x k)) (hb:iK ⟨n,[]⟩ ops gs E o (.bool true)=some E') (h:JY G n ops l2 R E' (k+1)):JY G n ops (o::l2) R E k:=by
 intro a w hA hJ
 obtain⟨hg,hp⟩:=cG hb
 obtain⟨fn,tmps,assign,body,hy,hr⟩:=hY k w hk hJ
 unfold wpListIn
 rw[if_pos (bL hA hg)]
 refine⟨fun _ _=>trivial,?_⟩
 have e1:args.map a.eval=(x k).toArray:=by
  rw[← hA.vals _ _ ha]
  exact Array.ext' (by simp)
 have hs:o.semAt Fence.wide.round a.eval=execOp a.eval o:=Oper.semAt_none a.eval o
 have he:(execOp a.eval o).run Tryz.prog w=.ok (.round l fn tmps assign body) w:=by
  simp[execOp,ho,resolve,invoke,Deferred.ofValue,hA.val hf,e1,hy]
 rw[hs,he,Oper.uponIn_round]
 refine⟨fun hd=>(by simp[Fence.wide] at hd),hr.mono ?_⟩
 rintro e W' ⟨rfl,hJ'⟩
 exact h _ _ (hA.putE hp) hJ'
end
def vq (nr:Nat) (k:Nat):List Value:=[.int .i64 (bW nr k)]
set_option maxHeartbeats 1000000 in
theorem pr (p nr:Nat) (hnr:nr≤63):vI 114 [.pointer (some ⟨p,0,none⟩)] p 2 (bW nr 0) nr (vq nr):=by
 intro l J w hJS hJm hY h0
 refine calls_of_wp Tryz.func114 rfl ?_
 have hA0:=iV (n:=12) (args:=[.func (.yield l) #[] #[],.pointer (some ⟨p,0,none⟩)]) rfl
 refine wp_block (wp_loop_ghost (fun m a w=>∃ k,m=nr-k∧k≤nr∧d6 ⟨12,[]⟩ a [(1,.pointer (some ⟨p,0,none⟩)),(0,.func (.yield l) #[] #[])]∧J k (bW nr k) w) nr ⟨0,rfl,Nat.zero_le _,hA0.ents _ ⟨rfl,rfl,trivial⟩,h0⟩ ?_)
 rintro m a w ⟨k,rfl,hk,hA,hG⟩
 obtain⟨G,hGe⟩:∃ G:Nat→World→Prop,G=fun j W=>J j (bW nr k) W:=⟨_,rfl⟩
 have hGS:∀ j W,G j W→∀ c∈[aQ.seg p 0 [.int .i64 (bW nr k)]],c.holds W:=by
  rintro j W hj c hc
  rw[hGe] at hj
  rw[List.mem_singleton.1 hc]
  exact fun i v hv=>aF p 2 _ (0,0) W (hJS j _ W hj) i v hv
 have hGa:∀ j W W',G j W→ci W [] W' []→G j W':=by
  intro j W W' hj h
  rw[hGe] at hj ⊢
  have hc:=hJS j _ W hj
  exact hJm j _ _ W W' hj ⟨h.os,h.tape,h.output,h.size,fun k hk _=>h.keep k hk (by simp),fun c hc'=>by
   rw[List.mem_singleton.1 hc']
   exact aQ.holds_of hc fun b hb=>h.keep b (aQ.at_lt hc hb) (by simp),fun c hc' b hb=>.inr (by rw[List.mem_singleton.1 hc'] at hb;simp[aQ.mine] at hb;simp[hb]),List.pairwise_singleton _ _⟩
 have hYG:∀ j W,j<nr→G j W→YieldAt Fence.wide 0 Tryz.prog l (vq nr j).toArray W fun e W'=>e=.returned (.bool true)∧G (j+1) W':=by
  intro j W hj hG
  rw[hGe] at hG ⊢
  exact hY j _ W hj hG
 have hG':G k w:=by rw[hGe];exact hG
 suffices hWG:WG G 12 _ _ [(1,.pointer (some ⟨p,0,none⟩)),(0,.func (.yield l) #[] #[])] k from hWG _ _ hA hG'
 clear hA hG hG'
 by_cases hlt:k<nr
 ·have hpos:=jl hlt
  refine iE ?_
  refine iE (n9 ?_)
  refine o8 (S:=[.seg p 0 [.int .i64 (bW nr k)]]) (F:=[(5,.bool true),(6,.func (.yield l) #[] #[]),(7,.int .i64 (bW nr k)),(1,.pointer (some ⟨p,0,none⟩)),(0,.func (.yield l) #[] #[])]) 5 rfl hGS hGa rfl (fun w=>?_) ?_
  ·show JL _ _ [_,_,_,_,_] _ _ _
   refine ab [] (bw (i:=0) 0 rfl rfl rfl rfl rfl) rfl ?_
   refine ah [] rfl ?_
   refine av 5 (v':=.bool true) rfl (congrArg Value.bool (aA (by omega))) ?_
   refine ah [2] rfl ?_
   refine ab [2] (bw (i:=0) 0 rfl rfl rfl rfl rfl) rfl ?_
   exact ai ⟨rfl,rfl,rfl,rfl,rfl,trivial⟩
  ·refine tA [2] hYG hlt rfl rfl rfl rfl ?_
   refine o8 (S:=[.seg p 0 [.int .i64 (bW nr k)]]) (F:=[(9,.bool true),(1,.pointer (some ⟨p,0,none⟩)),(0,.func (.yield l) #[] #[])]) 1 rfl hGS hGa rfl (fun w=>?_) (v4 fun a w hA hG=>?_)
   ·exact ae [] rfl ⟨rfl,rfl,rfl,trivial⟩
   ·refine wp_cond_true (hA.val (x:=.tmp 9) rfl) (wp_skip ?_)
    suffices hWG:WG G 12 _ _ [(9,.bool true),(1,.pointer (some ⟨p,0,none⟩)),(0,.func (.yield l) #[] #[])] (k+1) from hWG _ _ hA hG
    refine iE fun a w hA hG=>wp_block (wp_skip ?_)
    suffices hWG:WG G 12 _ _ [(9,.bool true),(1,.pointer (some ⟨p,0,none⟩)),(0,.func (.yield l) #[] #[])] (k+1) from hWG _ _ hA hG
    refine uP (M:=[p]) (S:=[blk p 2 [.int .i64 (bW nr k)]]) (Q:=w4 fun E' H'=>jC E' [(1,.pointer (some ⟨p,0,none⟩)),(0,.func (.yield l) #[] #[])]∧H'=[blk p 2 [.int .i64 (bW nr (k+1))]]) (fun W hW=>?_) (fun w=>?_) ?_
    ·rw[hGe] at hW
     exact wx (hJS _ _ W hW)
    ·skip
     refine aa (ah [] rfl ?_)
     refine ab [] (v:=.int .i64 (bW nr k)) (af 0 rfl rfl rfl rfl) rfl ?_
     refine ab [] (xI (b:=1) rfl rfl rfl) rfl ?_
     refine av 11 (v':=.int .i64 (bW nr (k+1))) rfl (congrArg (Value.int .i64) (by
      rw[rZ]
      show Int.fdiv (bW nr k) (2^1)=_
      rw[Int.fdiv_eq_ediv_of_nonneg _ (by decide)];rfl)) ?_
     refine aE 0 rfl rfl rfl rfl rfl [] rfl ?_
     exact ai ⟨⟨rfl,rfl,trivial⟩,rfl⟩
    ·rintro e E2 a2 w2 hA2 ⟨w1,H',hG1,hH',hq⟩
     cases e with
     |normal=>
      obtain⟨hq1,rfl⟩:=hq
      rw[hGe] at hG1
      exact⟨nr-(k+1),by omega,k+1,rfl,hlt,hA2.ents _ hq1,hJm (k+1) _ _ w1 w2 hG1 hH'⟩
     |_=>exact hq.elim
 ·obtain rfl:k=nr:=by omega
  refine iE (iS (Q:=fun e _ _=>e=.exit 0) (S:=[.seg p 0 [.int .i64 (bW k k)]]) rfl hGS hGa (fun w=>?_) ?_)
  ·refine ad (aa ?_)
   refine ab [] (bw (i:=0) 0 rfl rfl rfl rfl rfl) rfl ?_
   refine ah [] rfl ?_
   refine av 5 (v':=.bool false) rfl (congrArg Value.bool (aB (by rw[jt (Nat.le_refl _)];decide))) ?_
   refine ae [2] rfl ?_
   exact bq rfl (a6 rfl)
  ·rintro e E1 a1 w1 hA1 hG1 ⟨_,_,_,rfl⟩
   simp only[Exit.then,Exit.inBlock,if_true]
   rw[hGe] at hG1
   exact⟨hA1.defers,_,fi (E:=[]) (hA1.ents [] trivial) rfl _,⟨_,rfl⟩,_,hG1⟩
end Go.Proofs.YtpbmihpjgjbndaaGreatDoor
/- Layer 1: what Log and Floor answer, and math/bits.Len64 below them: for every number. -/
set_option linter.unusedVariables false
set_option linter.unusedSimpArgs false
namespace Go.Proofs.YtpbmihpjgjbndaaGreatDoor
open Go.RowKit
variable {X:Cx} {Q:dr} {E E':Env} {H:Heap}
def bR (n:Nat):Nat:=if n=0 then 0 else n.log2+1
theorem nL (n:Nat):n<2^bR n:=by
 unfold bR
 split
 ·omega
 ·exact Nat.lt_log2_self
theorem gU {n:Nat} (h:0<n):2^(bR n-1)≤n:=by
 unfold bR
 rw[if_neg (by omega),Nat.add_sub_cancel]
 exact Nat.log2_self_le (by omega)
theorem iF {n:Nat} (h:0<n):0<bR n:=by unfold bR;rw[if_neg (by omega)];omega
theorem qr {n k:Nat} (h1:2^k≤n) (h2:n<2^(k+1)):bR n=k+1:=by
 have hn:0<n:=Nat.lt_of_lt_of_le (Nat.two_pow_pos k) h1
 have h3:=nL n
 have h4:=gU hn
 have h5:=iF hn
 have h6:k<bR n:=(Nat.pow_lt_pow_iff_right (by decide:1<2)).1 (Nat.lt_of_le_of_lt h1 h3)
 have h7:bR n-1<k+1:=(Nat.pow_lt_pow_iff_right (by decide:1<2)).1 (Nat.lt_of_le_of_lt h4 h2)
 omega
theorem iy {n c:Nat} (h:2^c≤n):bR n=c+bR (n/2^c):=by
 have hc:=Nat.two_pow_pos c
 have hp:0<n/2^c:=Nat.div_pos h hc
 have h1:=nL (n/2^c)
 have h2:=gU hp
 have h3:=iF hp
 have e:bR n=(c+(bR (n/2^c)-1))+1:=by
  apply qr
  ·rw[Nat.pow_add,Nat.mul_comm]
   exact Nat.le_trans (Nat.mul_le_mul_right _ h2) (Nat.div_mul_le_self n _)
  ·rw[show c+(bR (n/2^c)-1)+1=bR (n/2^c)+c by omega,Nat.pow_add]
   exact (Nat.div_lt_iff_lt_mul hc).1 h1
 omega
def io:ByteArray:=⟨((List.range 256).map fun i=>UInt8.ofNat (bR i)).toArray⟩
theorem tZ {m:Nat} (h:m<256):io[m]?=some (UInt8.ofNat (bR m)):=by
 have:io.size=256:=by simp[io,ByteArray.size]
 have hg:io.data[m]?=some (UInt8.ofNat (bR m)):=by simp[io,h]
 have hm:m<io.size:=by omega
 rw[getElem?_pos io m hm]
 have hm':m<io.data.size:=hm
 rw[Array.getElem?_eq_getElem hm'] at hg
 exact hg
theorem kM {m:Nat} (h:m<256):bR m≤8:=by
 rcases Nat.eq_zero_or_pos m with rfl|hp
 ·decide
 ·have:=gU hp
  have h7:bR m-1<8:=(Nat.pow_lt_pow_iff_right (by decide:1<2)).1 (Nat.lt_of_le_of_lt this h)
  omega
theorem v8 {o:Oper} {t s1 s2 m:Nat} {x ix:Operand} {s:ByteArray} {k:IntKind} {z:Option Value} (ho:o.op=.index t x ix) (hx:val E x=some (.string s)) (hs:s=io) (hi:val E ix=some (.int k (m:Int)))
 (ht:tab t=some ⟨.string,s1,s2,z⟩) (hm:m<256):ib X o E H (.int .u8 (bR m:Nat)):=by
 intro a w hA hH
 have h1:=tZ hm
 have h2:=kM hm
 subst hs
 have h0:(0:Int)≤(m:Int):=by omega
 simp[execOp,ho,hA.val hx,hA.val hi,Instr.index,asIntOf,run_underlying (ij ht),h1]
 omega
theorem zS {n:Int} (h:0≤n∧n<18446744073709551616):IntKind.u64.wrap n=n:=by
 simp only[IntKind.wrap,IntKind.bits,IntKind.signed]
 simp
 omega
theorem zZ {n:Int} (h:0≤n∧n<256):IntKind.u8.wrap n=n:=by
 simp only[IntKind.wrap,IntKind.bits,IntKind.signed]
 simp
 omega
theorem m9 (n k:Nat):Int.fdiv (n:Int) (2^k)=((n/2^k:Nat):Int):=by
 rw[Int.fdiv_eq_ediv_of_nonneg _ (by exact_mod_cast Nat.zero_le _)]
 norm_cast
theorem vX (n:Nat) (hn:n<18446744073709551616):Fn 108 [.int .u64 n] [] [] fun v H'=>v=.int .i64 (bR n:Nat)∧H'=[]:=by
 have st1:∃ x a:Nat,(4294967296≤n→x=n/2^32∧a=32)∧(¬ 4294967296≤n→x=n∧a=0):=by
  by_cases h:4294967296≤n
  ·exact⟨_,_,fun _=>⟨rfl,rfl⟩,fun h'=>absurd h h'⟩
  ·exact⟨_,_,fun h'=>absurd h' h,fun _=>⟨rfl,rfl⟩⟩
 obtain⟨x1,a1,p1,q1⟩:=st1
 have st2:∃ x a:Nat,(65536≤x1→x=x1/2^16∧a=a1+16)∧(¬ 65536≤x1→x=x1∧a=a1):=by
  by_cases h:65536≤x1
  ·exact⟨_,_,fun _=>⟨rfl,rfl⟩,fun h'=>absurd h h'⟩
  ·exact⟨_,_,fun h'=>absurd h' h,fun _=>⟨rfl,rfl⟩⟩
 obtain⟨x2,a2,p2,q2⟩:=st2
 have st3:∃ x a:Nat,(256≤x2→x=x2/2^8∧a=a2+8)∧(¬ 256≤x2→x=x2∧a=a2):=by
  by_cases h:256≤x2
  ·exact⟨_,_,fun _=>⟨rfl,rfl⟩,fun h'=>absurd h h'⟩
  ·exact⟨_,_,fun h'=>absurd h' h,fun _=>⟨rfl,rfl⟩⟩
 obtain⟨x3,a3,p3,q3⟩:=st3
 have f1:x1<4294967296∧a1≤32∧bR n=a1+bR x1:=by
  by_cases h:4294967296≤n
  ·obtain⟨rfl,rfl⟩:=p1 h;exact⟨by omega,by omega,iy (c:=32) h⟩
  ·obtain⟨rfl,rfl⟩:=q1 h;exact⟨by omega,by omega,by omega⟩
 have f2:x2<65536∧a2≤48∧bR n=a2+bR x2:=by
  by_cases h:65536≤x1
  ·obtain⟨rfl,rfl⟩:=p2 h;exact⟨by omega,by omega,by rw[f1.2.2,iy (c:=16) h];omega⟩
  ·obtain⟨rfl,rfl⟩:=q2 h;exact⟨by omega,by omega,f1.2.2⟩
 have f3:x3<256∧a3≤56∧bR n=a3+bR x3:=by
  by_cases h:256≤x2
  ·obtain⟨rfl,rfl⟩:=p3 h;exact⟨by omega,by omega,by rw[f2.2.2,iy (c:=8) h];omega⟩
  ·obtain⟨rfl,rfl⟩:=q3 h;exact⟨by omega,by omega,f2.2.2⟩
 refine aK Tryz.func108 rfl rfl fun w0=>?_
 refine ad (aa (ae [] rfl ?_))
 refine dM [(0,.int .u64 x1),(2,.int .i64 a1)] [] ?_ ?_
 ·refine ad (aa (ae [] rfl ?_))
  refine aD rfl (fun h=>?_) (fun h=>aq ?_)
  ·obtain⟨h1,h2⟩:=p1 (by omega)
   refine ad (aa (ae [] rfl ?_))
   refine aa (ae [] rfl ?_)
   exact⟨[],⟨by rw[h1,← m9];rfl,by rw[h2];rfl,trivial⟩,by decide,rfl⟩
  ·obtain⟨h1,h2⟩:=q1 (by omega)
   exact⟨[],⟨by rw[h1];rfl,by rw[h2];rfl,trivial⟩,by decide,rfl⟩
 refine dM [(0,.int .u64 x2),(2,.int .i64 a2)] [] ?_ ?_
 ·refine ad (aa (ae [] rfl ?_))
  refine aD rfl (fun h=>?_) (fun h=>aq ?_)
  ·obtain⟨h1,h2⟩:=p2 (by omega)
   refine ad (aa (ae [] rfl ?_))
   refine aa (ae [] rfl ?_)
   exact⟨[],⟨by rw[h1,← m9];rfl,by rw[h2,Int.natCast_add,← cj (n:=(a1:Int)+((16:Nat):Int)) (by omega)];rfl,trivial⟩,by decide,rfl⟩
  ·obtain⟨h1,h2⟩:=q2 (by omega)
   exact⟨[],⟨by rw[h1];rfl,by rw[h2];rfl,trivial⟩,by decide,rfl⟩
 refine dM [(0,.int .u64 x3),(2,.int .i64 a3)] [] ?_ ?_
 ·refine ad (aa (ae [] rfl ?_))
  refine aD rfl (fun h=>?_) (fun h=>aq ?_)
  ·obtain⟨h1,h2⟩:=p3 (by omega)
   refine ad (aa (ae [] rfl ?_))
   refine aa (ae [] rfl ?_)
   exact⟨[],⟨by rw[h1,← m9];rfl,by rw[h2,Int.natCast_add,← cj (n:=(a2:Int)+((8:Nat):Int)) (by omega)];rfl,trivial⟩,by decide,rfl⟩
  ·obtain⟨h1,h2⟩:=q3 (by omega)
   exact⟨[],⟨by rw[h1];rfl,by rw[h2];rfl,trivial⟩,by decide,rfl⟩
 refine ad (aa (ah [] rfl ?_))
 refine av 21 (v':=.int .u8 x3) rfl (congrArg (Value.int .u8) (zZ (by omega))) ?_
 refine ab [] (v8 rfl rfl (by kernel_rfl) rfl rfl f3.1) rfl ?_
 refine ae [] rfl ?_
 refine ay ⟨_,rfl,congrArg (Value.int .i64) ?_,rfl⟩
 have:=kM f3.1
 rw[cj (n:=((bR x3:Nat):Int)) (by omega),cj (by omega)]
 omega
def fF (n:Int):Int:=if n<1 then 0 else 2^(bR n.toNat-1)
theorem wc (n:Int) (hn:cL n):Fn 115 [.int .i64 n] [] [] fun v H'=>v=.int .i64 (fF n)∧H'=[]:=by
 unfold cL at hn
 refine aK Tryz.func115 rfl rfl fun w0=>?_
 refine ad (aa (ae [] rfl ?_))
 refine ad (ad (aa (ae [] rfl ?_)))
 refine aD rfl (fun h=>?_) (fun h=>?_)
 ·refine ad (aa (ae [] rfl ?_))
  exact ay ⟨_,rfl,by unfold fF;rw[if_pos h];rfl,rfl⟩
 ·have hp:0<n.toNat:=by omega
  have h1:=gU hp
  have h2:=iF hp
  have h3:bR n.toNat-1<63:=(Nat.pow_lt_pow_iff_right (by decide:1<2)).1 (Nat.lt_of_le_of_lt h1 (by omega))
  refine aq (ad (aa (ah [] rfl ?_)))
  refine av 6 (v':=.int .u64 (n.toNat:Nat)) rfl (congrArg (Value.int .u64) ?_) ?_
  ·rw[zS (by omega)];omega
  refine ap [] (vX n.toNat (by omega)) rfl rfl rfl rfl (by kernel_rfl) trivial (fun _=>rfl) ?_
  rintro v H' ⟨rfl,rfl⟩
  refine⟨rfl,?_⟩
  refine ah [] rfl ?_
  refine av 8 (v':=.int .i64 ((bR n.toNat-1:Nat):Int)) rfl (congrArg (Value.int .i64) ?_) ?_
  ·rw[cj (by omega)];omega
  refine ab [] (xG rfl rfl rfl) rfl ?_
  refine ae [] rfl ?_
  refine ay ⟨_,rfl,congrArg (Value.int .i64) ?_,rfl⟩
  unfold fF
  rw[if_neg h,Int.one_mul,Nat.min_eq_left (by simp[IntKind.bits];omega)]
  have h4:((2^(bR n.toNat-1):Nat):Int)≤n:=by omega
  rw[Int.natCast_pow] at h4
  have h5:(0:Int)≤2^(bR n.toNat-1):=by exact_mod_cast Nat.zero_le _
  exact cj ⟨by omega,by exact Int.le_trans h4 hn.2⟩
end Go.Proofs.YtpbmihpjgjbndaaGreatDoor
