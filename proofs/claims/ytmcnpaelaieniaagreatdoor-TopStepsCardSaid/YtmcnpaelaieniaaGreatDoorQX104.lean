import Derived.Test.YtmcnpaelaieniaaGreatDoorQX102
import Derived.Test.YtmcnpaelaieniaaGreatDoorQX71
import Derived.Test.YtmcnpaelaieniaaGreatDoorQA
import Derived.Test.YtmcnpaelaieniaaGreatDoorQB
import Derived.Test.YtmcnpaelaieniaaGreatDoorQF
/- A part of the proof; see NOTES.md. -/
set_option linter.unusedVariables false
set_option linter.unusedSimpArgs false
namespace Go.Proofs.YtmcnpaelaieniaaGreatDoor
open Go.RowKit
theorem yF(n:Int):Fn 44 [.int .i64 n] [] [] λ v H'=>∃ p,v=.func (.func 86) #[] #[.pointer (some ⟨p,0,none⟩)]/\H'=[blk p 2 [.int .i64 n]]:=by
 refine aH Tryz.func44 rfl rfl λ w0=>?_;refine ad (aa ?_);refine bz rfl rfl rfl (λ _=>rfl) λ b=>?_;refine ae [] rfl ?_;refine ad (aa (ae [] rfl ?_));exact ax ⟨_,rfl,b,rfl,rfl⟩
section
variable {G:Nat->World->Prop} {n:Nat} {E:Env} {k nr l:Nat} {x:Nat->LV_} {ops:List Oper} {R:Exit->Act->World->Prop}
theorem yc{l2:List Oper}{o:Oper}{f:Operand}{args:Array Operand}{ts:Array TypeId}{E':Env}(gs:LN)(hY:∀ k W,k<nr->G k W->YieldAt Fence.wide 0 Tryz.prog l (x k).toArray W λ e W'=>e=.returned (.bool true)/\G (k+1) W')(hk:k<nr)
 (ho:o.op=.call ⟨.value f,args,ts⟩) (hf:val E f=some (.func (.yield l) #[] #[])) (ha:vals E args.toList=some (x k)) (hb:jH ⟨n,[]⟩ ops gs E o (.bool true)=some E') (h:JY G n ops l2 R E' (k+1)):JY G n ops (o::l2) R E k:=by
 intro a w hA hJ;obtain⟨hg,hp⟩:=dd hb;obtain⟨fn,tmps,assign,body,hy,hr⟩:=hY k w hk hJ;unfold wpListIn;rw[if_pos (ce hA hg)];refine⟨λ _ _=>trivial,?_⟩
 have e1:args.map a.eval=(x k).toArray:=by
  rw[<- hA.vals _ _ ha];exact Array.ext' (by simp)
 have hs:o.semAt Fence.wide.round a.eval=execOp a.eval o:=Oper.semAt_none a.eval o
 have he:(execOp a.eval o).run Tryz.prog w=.ok (.round l fn tmps assign body) w:=by
  simp[execOp,ho,resolve,invoke,Deferred.ofValue,hA.val hf,e1,hy]
 rw[hs,he,Oper.uponIn_round];refine⟨λ hd=>(by simp[Fence.wide] at hd),hr.mono ?_⟩;rintro e W' ⟨rfl,hJ'⟩;exact h _ _ (hA.putE hp) hJ'
end
def AR(nr:Nat)(k:Nat):LV_:=[.int .i64 (cK nr k)]
set_option maxHeartbeats 1000000 in
theorem sB(p nr:Nat)(hnr:nr<=63):Ad 86 [.pointer (some ⟨p,0,none⟩)] p 2 (cK nr 0) nr (AR nr):=by
 intro l J w hJS hJm hY h0;refine calls_of_wp Tryz.func86 rfl ?_;have hA0:=kr (n:=12) (args:=[.func (.yield l) #[] #[],.pointer (some ⟨p,0,none⟩)]) rfl;refine wp_block (wp_loop_ghost (λ m a w=>∃ k,m=nr-k/\k<=nr/\eR ⟨12,[]⟩ a [(1,.pointer (some ⟨p,0,none⟩)),(0,.func (.yield l) #[] #[])]/\J k (cK nr k) w) nr ⟨0,rfl,GI _,hA0.ents _ ⟨rfl,rfl,an⟩,h0⟩ ?_);rintro m a w ⟨k,rfl,hk,hA,hG⟩;obtain⟨G,hGe⟩:∃ G:Nat->World->Prop,G=λ j W=>J j (cK nr k) W:=⟨_,rfl⟩
 have hGS:∀ j W,G j W->∀ c∈[aR.seg p 0 [.int .i64 (cK nr k)]],c.holds W:=by
  rintro j W hj c hc;rw[hGe] at hj;rw[GF.1 hc];exact λ i v hv=>aD p 2 _ (0,0) W (hJS j _ W hj) i v hv
 have hGa:∀ j W W',G j W->cS W [] W' []->G j W':=by
  intro j W W' hj h;rw[hGe] at hj ⊢;have hc:=hJS j _ W hj
  exact hJm j _ _ W W' hj ⟨h.os,h.tape,h.output,h.size,λ k hk _=>h.keep k hk (by simp),λ c hc'=>by
   rw[GF.1 hc'];exact aR.holds_of hc λ b hb=>h.keep b (aR.at_lt hc hb) (by simp),λ c hc' b hb=>.inr (by rw[GF.1 hc'] at hb;simp[aR.mine] at hb;simp[hb]),In _ _⟩
 have hYG:∀ j W,j<nr->G j W->YieldAt Fence.wide 0 Tryz.prog l (AR nr j).toArray W λ e W'=>e=.returned (.bool true)/\G (j+1) W':=by
  intro j W hj hG;rw[hGe] at hG ⊢;exact hY j _ W hj hG
 have hG':G k w:=by rw[hGe];exact hG
 suffices hWG:WG G 12 _ _ [(1,.pointer (some ⟨p,0,none⟩)),(0,.func (.yield l) #[] #[])] k from hWG _ _ hA hG'
 clear hA hG hG'
 by_cases hlt:k<nr
 ·have hpos:=kU hlt;refine j0 ?_;refine j0 (qV ?_);refine sM (S:=[.seg p 0 [.int .i64 (cK nr k)]]) (F:=[(5,.bool true),(6,.func (.yield l) #[] #[]),(7,.int .i64 (cK nr k)),(1,.pointer (some ⟨p,0,none⟩)),(0,.func (.yield l) #[] #[])]) 5 rfl hGS hGa rfl (λ w=>?_) ?_
  ·show JL _ _ [_,_,_,_,_] _ _ _;refine ab [] (bc (i:=0) 0 rfl rfl rfl) rfl ?_;refine ah [] rfl ?_;refine bj 5 rfl (by omega) ?_;refine ah [2] rfl ?_;refine ab [2] (bc (i:=0) 0 rfl rfl rfl) rfl ?_;exact ai ⟨rfl,rfl,rfl,rfl,rfl,an⟩
  ·refine yc [2] hYG hlt rfl rfl rfl rfl ?_;refine sM (S:=[.seg p 0 [.int .i64 (cK nr k)]]) (F:=[(9,.bool true),(1,.pointer (some ⟨p,0,none⟩)),(0,.func (.yield l) #[] #[])]) 1 rfl hGS hGa rfl (λ w=>?_) (Bh λ a w hA hG=>?_)
   ·exact ae [] rfl ⟨rfl,rfl,rfl,an⟩
   ·refine wp_cond_true (hA.val (x:=.tmp 9) rfl) (wp_skip ?_)
    suffices hWG:WG G 12 _ _ [(9,.bool true),(1,.pointer (some ⟨p,0,none⟩)),(0,.func (.yield l) #[] #[])] (k+1) from hWG _ _ hA hG
    refine j0 λ a w hA hG=>wp_block (wp_skip ?_)
    suffices hWG:WG G 12 _ _ [(9,.bool true),(1,.pointer (some ⟨p,0,none⟩)),(0,.func (.yield l) #[] #[])] (k+1) from hWG _ _ hA hG
    refine yw (M:=[p]) (S:=[blk p 2 [.int .i64 (cK nr k)]]) (Q:=Cu λ E' H'=>lD E' [(1,.pointer (some ⟨p,0,none⟩)),(0,.func (.yield l) #[] #[])]/\H'=[blk p 2 [.int .i64 (cK nr (k+1))]]) (λ W hW=>?_) (λ w=>?_) ?_
    ·rw[hGe] at hW;exact BM (hJS _ _ W hW)
    ·skip
     refine aa (ah [] rfl ?_);refine ab [] (v:=.int .i64 (cK nr k)) (af 0 rfl) rfl ?_;refine ab [] (Dr (b:=1) rfl rfl rfl) rfl ?_
     refine aI 11 (v':=.int .i64 (cK nr (k+1))) rfl (Gz (Value.int .i64) (by
      rw[vr];show Int.fdiv (cK nr k) (2^1)=_;rw[I4 _ (by decide)];rfl)) ?_
     refine aB 0 rfl [] rfl ?_;exact ai ⟨⟨rfl,rfl,an⟩,rfl⟩
    ·rintro e E2 a2 w2 hA2 ⟨w1,H',hG1,hH',hq⟩
     cases e with
     |normal=>
      obtain⟨hq1,rfl⟩:=hq;rw[hGe] at hG1;exact⟨nr-(k+1),by omega,k+1,rfl,hlt,hA2.ents _ hq1,hJm (k+1) _ _ w1 w2 hG1 hH'⟩
     |_=>exact hq.elim
 ·obtain rfl:k=nr:=by omega
  refine j0 (kB (Q:=λ e _ _=>e=.exit 0) (S:=[.seg p 0 [.int .i64 (cK k k)]]) rfl hGS hGa (λ w=>?_) ?_)
  ·refine ad (aa ?_);refine ab [] (bc (i:=0) 0 rfl rfl rfl) rfl ?_;refine ah [] rfl ?_;refine bd 5 rfl (by rw[kO (GN _)];decide) ?_;refine ae [2] rfl ?_;exact bG rfl (a9 rfl)
  ·rintro e E1 a1 w1 hA1 hG1 ⟨_,_,_,rfl⟩;simp only[Exit.then,Exit.inBlock,Iq];rw[hGe] at hG1;exact⟨hA1.defers,_,gD (E:=[]) (hA1.ents [] an) rfl _,⟨_,rfl⟩,_,hG1⟩
variable {X:Cx} {Q:dU} {E E':Env} {H:Heap}
def cv(n:Nat):Nat:=if n=0 then 0 else n.log2+1
theorem nN(n:Nat):n<2^cv n:=by
 unfold cv;split
 ·omega
 ·exact Nat.lt_log2_self
theorem ip{n:Nat}(h:0<n):2^(cv n-1)<=n:=by
 unfold cv;rw[if_neg (by omega),Nat.add_sub_cancel];exact Nat.log2_self_le (by omega)
theorem iG{n:Nat}(h:0<n):0<cv n:=by unfold cv;rw[if_neg (by omega)];omega
theorem uv{n k:Nat}(h1:2^k<=n)(h2:n<2^(k+1)):cv n=k+1:=by
 have hn:0<n:=Is (Nat.two_pow_pos k) h1;have h3:=nN n;have h4:=ip hn;have h5:=iG hn;have h6:k<cv n:=(Ik (by decide:1<2)).1 (IN h1 h3);have h7:cv n-1<k+1:=(Ik (by decide:1<2)).1 (IN h4 h2);omega
theorem j9{n c:Nat}(h:2^c<=n):cv n=c+cv (n/2^c):=by
 have hc:=Nat.two_pow_pos c;have hp:0<n/2^c:=Nat.div_pos h hc;have h1:=nN (n/2^c);have h2:=ip hp;have h3:=iG hp
 have e:cv n=(c+(cv (n/2^c)-1))+1:=by
  apply uv
  ·rw[Nat.pow_add,Nat.mul_comm];exact HK (HB _ h2) (Nat.div_mul_le_self n _)
  ·rw[show c+(cv (n/2^c)-1)+1=cv (n/2^c)+c by omega,Nat.pow_add];exact (Nat.div_lt_iff_lt_mul hc).1 h1
 omega
def jV:ByteArray:=⟨((List.range 256).map λ i=>UInt8.ofNat (cv i)).toArray⟩
theorem zb{m:Nat}(h:m<256):jV[m]?=some (UInt8.ofNat (cv m)):=by
 have:jV.size=256:=by simp[jV,ByteArray.size]
 have hg:jV.data[m]?=some (UInt8.ofNat (cv m)):=by simp[jV,h]
 have hm:m<jV.size:=by omega
 rw[getElem?_pos jV m hm];have hm':m<jV.data.size:=hm;rw[Jd hm'] at hg;exact hg
theorem mw{m:Nat}(h:m<256):cv m<=8:=by
 rcases Ic m with rfl|hp
 ·decide
 ·have:=ip hp;have h7:cv m-1<8:=(Ik (by decide:1<2)).1 (IN this h);omega
theorem zZ{o:Oper}{t s1 s2 m:Nat}{x ix:Operand}{s:ByteArray}{k:IntKind}{z:Option Value}(ho:o.op=.index t x ix)(hx:val E x=some (.string s))(hs:s=jV)(hi:val E ix=some (.int k (m:Int)))
 (ht:tab t=some ⟨.string,s1,s2,z⟩) (hm:m<256):gq X o E H (.int .u8 (cv m:Nat)):=by
 intro a w hA hH;have h1:=zb hm;have h2:=mw hm;subst hs;have h0:(0:Int)<=(m:Int):=by omega
 simp[execOp,ho,hA.val hx,hA.val hi,Instr.index,asIntOf,run_underlying (iC ht),h1];omega
theorem Fp{n:Int}(h:0<=n/\n<18446744073709551616):IntKind.u64.wrap n=n:=by
 simp only[IntKind.wrap,IntKind.bits,IntKind.signed];simp;omega
theorem Gx{n:Int}(h:0<=n/\n<256):IntKind.u8.wrap n=n:=by
 simp only[IntKind.wrap,IntKind.bits,IntKind.signed];simp;omega
theorem qA(n k:Nat):Int.fdiv (n:Int) (2^k)=((n/2^k:Nat):Int):=by
 rw[I4 _ (by exact_mod_cast GI _)]
 norm_cast
theorem tT(n:Nat)(hn:n<18446744073709551616):Fn 78 [.int .u64 n] [] [] λ v H'=>v=.int .i64 (cv n:Nat)/\H'=[]:=by
 have st1:∃ x a:Nat,(4294967296<=n->x=n/2^32/\a=32)/\(¬ 4294967296<=n->x=n/\a=0):=by
  by_cases h:4294967296<=n
  ·exact⟨_,_,λ _=>⟨rfl,rfl⟩,λ h'=>absurd h h'⟩
  ·exact⟨_,_,λ h'=>absurd h' h,λ _=>⟨rfl,rfl⟩⟩
 obtain⟨x1,a1,p1,q1⟩:=st1
 have st2:∃ x a:Nat,(65536<=x1->x=x1/2^16/\a=a1+16)/\(¬ 65536<=x1->x=x1/\a=a1):=by
  by_cases h:65536<=x1
  ·exact⟨_,_,λ _=>⟨rfl,rfl⟩,λ h'=>absurd h h'⟩
  ·exact⟨_,_,λ h'=>absurd h' h,λ _=>⟨rfl,rfl⟩⟩
 obtain⟨x2,a2,p2,q2⟩:=st2
 have st3:∃ x a:Nat,(256<=x2->x=x2/2^8/\a=a2+8)/\(¬ 256<=x2->x=x2/\a=a2):=by
  by_cases h:256<=x2
  ·exact⟨_,_,λ _=>⟨rfl,rfl⟩,λ h'=>absurd h h'⟩
  ·exact⟨_,_,λ h'=>absurd h' h,λ _=>⟨rfl,rfl⟩⟩
 obtain⟨x3,a3,p3,q3⟩:=st3
 have f1:x1<4294967296/\a1<=32/\cv n=a1+cv x1:=by
  by_cases h:4294967296<=n
  ·obtain⟨rfl,rfl⟩:=p1 h;exact⟨by omega,by omega,j9 (c:=32) h⟩
  ·obtain⟨rfl,rfl⟩:=q1 h;exact⟨by omega,by omega,by omega⟩
 have f2:x2<65536/\a2<=48/\cv n=a2+cv x2:=by
  by_cases h:65536<=x1
  ·obtain⟨rfl,rfl⟩:=p2 h;exact⟨by omega,by omega,by rw[f1.2.2,j9 (c:=16) h];omega⟩
  ·obtain⟨rfl,rfl⟩:=q2 h;exact⟨by omega,by omega,f1.2.2⟩
 have f3:x3<256/\a3<=56/\cv n=a3+cv x3:=by
  by_cases h:256<=x2
  ·obtain⟨rfl,rfl⟩:=p3 h;exact⟨by omega,by omega,by rw[f2.2.2,j9 (c:=8) h];omega⟩
  ·obtain⟨rfl,rfl⟩:=q3 h;exact⟨by omega,by omega,f2.2.2⟩
 refine aH Tryz.func78 rfl rfl λ w0=>?_;refine ad (aa (ae [] rfl ?_));refine eS [(0,.int .u64 x1),(2,.int .i64 a1)] [] ?_ ?_
 ·refine ad (aa (ae [] rfl ?_));refine aC rfl (λ h=>?_) (λ h=>aq ?_)
  ·obtain⟨h1,h2⟩:=p1 (by omega);refine ad (aa (ae [] rfl ?_));refine aa (ae [] rfl ?_);exact⟨[],⟨by rw[h1,<- qA];rfl,by rw[h2];rfl,an⟩,by decide,rfl⟩
  ·obtain⟨h1,h2⟩:=q1 (by omega);exact⟨[],⟨by rw[h1];rfl,by rw[h2];rfl,an⟩,by decide,rfl⟩
 refine eS [(0,.int .u64 x2),(2,.int .i64 a2)] [] ?_ ?_
 ·refine ad (aa (ae [] rfl ?_));refine aC rfl (λ h=>?_) (λ h=>aq ?_)
  ·obtain⟨h1,h2⟩:=p2 (by omega);refine ad (aa (ae [] rfl ?_));refine aa (ae [] rfl ?_);exact⟨[],⟨by rw[h1,<- qA];rfl,by rw[h2,Ii,<- b5 (n:=(a1:Int)+((16:Nat):Int)) (by omega)];rfl,an⟩,by decide,rfl⟩
  ·obtain⟨h1,h2⟩:=q2 (by omega);exact⟨[],⟨by rw[h1];rfl,by rw[h2];rfl,an⟩,by decide,rfl⟩
 refine eS [(0,.int .u64 x3),(2,.int .i64 a3)] [] ?_ ?_
 ·refine ad (aa (ae [] rfl ?_));refine aC rfl (λ h=>?_) (λ h=>aq ?_)
  ·obtain⟨h1,h2⟩:=p3 (by omega);refine ad (aa (ae [] rfl ?_));refine aa (ae [] rfl ?_);exact⟨[],⟨by rw[h1,<- qA];rfl,by rw[h2,Ii,<- b5 (n:=(a2:Int)+((8:Nat):Int)) (by omega)];rfl,an⟩,by decide,rfl⟩
  ·obtain⟨h1,h2⟩:=q3 (by omega);exact⟨[],⟨by rw[h1];rfl,by rw[h2];rfl,an⟩,by decide,rfl⟩
 refine ad (aa (ah [] rfl ?_));refine aI 21 (v':=.int .u8 x3) rfl (Gz (Value.int .u8) (Gx (by omega))) ?_;refine ab [] (zZ rfl rfl (by kernel_rfl) rfl rfl f3.1) rfl ?_;refine ae [] rfl ?_;refine ax ⟨_,rfl,Gz (Value.int .i64) ?_,rfl⟩;have:=mw f3.1;rw[b5 (n:=((cv x3:Nat):Int)) (by omega),b5 (by omega)];omega
def eU(n:Int):Nat:=if n<2 then 0 else cv (n-1).toNat
theorem AP{n:Int}(h:1<=n)(h':n<=9223372036854775807):n<=((2^eU n:Nat):Int)/\(eU n=0\/((2^(eU n-1):Nat):Int)<n)/\eU n<=63:=by
 unfold eU;by_cases h1:n<2
 ·rw[if_pos h1];simp;omega
 ·rw[if_neg h1];have hp:0<(n-1).toNat:=by omega
  have b1:=ip hp;have b2:=iG hp;have b3:=nN (n-1).toNat;refine⟨by omega,Or.inr (by omega),?_⟩;refine Nat.le_of_not_lt λ hc=>?_;have:2^63<=2^(cv (n-1).toNat-1):=Nat.pow_le_pow_right (by decide) (by omega);omega
theorem EW(n:Int)(hn:bU n):Fn 41 [.int .i64 n] [] [] λ v H'=>v=.int .i64 (eU n:Nat)/\H'=[]:=by
 unfold bU at hn;refine aH Tryz.func41 rfl rfl λ w0=>?_;refine ad (aa (ae [] rfl ?_));refine ad (ad (aa (ae [] rfl ?_)));refine aC rfl (λ h=>?_) (λ h=>?_)
 ·refine ad (aa (ae [] rfl ?_));exact ax ⟨_,rfl,by unfold eU;rw[if_pos h];rfl,rfl⟩
 ·refine aq (ad (aa (ah [] rfl ?_)));refine aI 7 (v':=.int .u64 ((n-1).toNat:Nat)) rfl (Gz (Value.int .u64) ?_) ?_
  ·rw[b5 (by omega),Fp (by omega)];omega
  refine ao [] (tT (n-1).toNat (by omega)) rfl (by kernel_rfl) an (λ _=>rfl) ?_;rintro v H' ⟨rfl,rfl⟩;refine⟨rfl,?_⟩;refine ae [] rfl ?_;exact ax ⟨_,rfl,by unfold eU;rw[if_neg h];rfl,rfl⟩
def ia(n:Int):Int:=if n<1 then 0 else 2^(cv n.toNat-1)
theorem BK(n:Int)(hn:bU n):Fn 87 [.int .i64 n] [] [] λ v H'=>v=.int .i64 (ia n)/\H'=[]:=by
 unfold bU at hn;refine aH Tryz.func87 rfl rfl λ w0=>?_;refine ad (aa (ae [] rfl ?_));refine ad (ad (aa (ae [] rfl ?_)));refine aC rfl (λ h=>?_) (λ h=>?_)
 ·refine ad (aa (ae [] rfl ?_));exact ax ⟨_,rfl,by unfold ia;rw[if_pos h];rfl,rfl⟩
 ·have hp:0<n.toNat:=by omega
  have h1:=ip hp;have h2:=iG hp;have h3:cv n.toNat-1<63:=(Ik (by decide:1<2)).1 (IN h1 (by omega));refine aq (ad (aa (ah [] rfl ?_)));refine aI 6 (v':=.int .u64 (n.toNat:Nat)) rfl (Gz (Value.int .u64) ?_) ?_
  ·rw[Fp (by omega)];omega
  refine ao [] (tT n.toNat (by omega)) rfl (by kernel_rfl) an (λ _=>rfl) ?_;rintro v H' ⟨rfl,rfl⟩;refine⟨rfl,?_⟩;refine ah [] rfl ?_;refine aI 8 (v':=.int .i64 ((cv n.toNat-1:Nat):Int)) rfl (Gz (Value.int .i64) ?_) ?_
  ·rw[b5 (by omega)];omega
  refine ab [] (Dh rfl rfl rfl) rfl ?_;refine ae [] rfl ?_;refine ax ⟨_,rfl,Gz (Value.int .i64) ?_,rfl⟩;unfold ia;rw[if_neg h,Int.one_mul,If (by simp[IntKind.bits];omega)];have h4:((2^(cv n.toNat-1):Nat):Int)<=n:=by omega
  rw[Int.natCast_pow] at h4;have h5:(0:Int)<=2^(cv n.toNat-1):=by exact_mod_cast GI _
  exact b5 ⟨by omega,by exact Je h4 hn.2⟩
theorem pA:∀ {l:List dM},(∀ a∈l,0<=a.cap)->∀ {a:dM},a∈l->a.cap<=(l.map (·.cap)).sum
 |[],_,_,h=>by simp at h
 |b::l,hp,a,h=>by
  have h0:=hp b (by simp)
  have hs:0<=(l.map (·.cap)).sum:=gg _ λ x hx=>by
   obtain⟨d,hd,rfl⟩:=G0.1 hx;exact hp d (by simp[hd])
  simp only[GM,GY]
  rcases GL.1 h with rfl|h
  ·omega
  ·have:=pA (λ d hd=>hp d (by simp[hd])) h;omega
theorem tq{N:aO}(hR:N.Right)(k:Nat):0<=jA (N.arcs.take k)/\jA (N.arcs.take k)<=4611686018427387903:=by
 obtain⟨h1,h2,h3⟩:=pJ (N.arcs.take k) 0 λ a ha=>(hR.arc a (HA ha)).2.2;refine⟨h1,?_⟩;unfold jA
 rcases h3 with h|⟨a,ha,h⟩
 ·rw[h];decide
 ·rw[h];have hs:=hR.sum;have:=pA (λ d hd=>(hR.arc d hd).2.2) (HA ha);omega
theorem ze(N:aO)(hR:N.Right)(A:OA)(c b o:Nat)(hA:N.arcs≠[]->A=some ⟨b,o,none⟩):Fn 45 [bx N A c] [] [.seg b o (arcs N.arcs)] λ v H'=>v=.int .i64 (ia (jA N.arcs))/\H'=[]:=by
 have hl2:=hR.len;refine aH Tryz.func45 rfl rfl λ w0=>?_;refine ad (aa ?_);refine bz (cs:=bJ N A c) rfl rfl rfl (λ _=>rfl) λ p1=>?_;refine ae [] rfl ?_;refine ad (aa (ae [] rfl ?_));refine ad (ad (aa (ah [] rfl ?_)));refine ab [] (v:=.slice A N.arcs.length c) (af 0 rfl) rfl ?_;refine ae [] rfl ?_;refine av ?_
 refine b8 (σ:=Nat) (λ t=>[(9,.int .i64 (t:Int)),(3,.int .i64 (jA (N.arcs.take t))),(8,.int .i64 (N.arcs.length:Int)),(7,.slice A N.arcs.length c)])
  (λ _=>[.seg b o (arcs N.arcs)]) (λ t=>t<=N.arcs.length) (λ t=>N.arcs.length-t) 0 ⟨rfl,rfl,rfl,rfl,an⟩ (aF.picks [1] (by decide) rfl) (GI _) ?_
 intro k hk;refine ad (aa (ae [] rfl ?_));refine ad (aC rfl (λ hlt=>aq ?_) (λ hge=>a9 ?_))
 ·have hkl:k<N.arcs.length:=by omega
  obtain⟨a,ha⟩:∃ a,N.arcs[k]?=some a:=⟨N.arcs[k],Gy hkl⟩;obtain rfl:=hA (by intro h0;rw[h0] at hkl;simp at hkl);refine ad (av ?_);refine ad (aa (ah [] rfl ?_));refine ab [] (eo rfl hkl) rfl ?_;refine ab [] (bc 0 rfl rfl (fX ha)) rfl ?_;refine bu rfl rfl rfl (λ _=>rfl) λ q=>?_;refine aB 0 rfl [] rfl ?_;refine ai ?_;refine aa (ah [] rfl ?_);refine ab [] (v:=.int .i64 a.cap) (af 0 rfl) rfl ?_;refine am (gs:=[]) rfl ?_;refine aI 16 (v':=.int .i64 (jA (N.arcs.take (k+1)))) rfl (by rw[GW,ha];unfold jA;rw[IT];rfl) ?_;refine ae [] rfl ?_;refine aa (ae [] rfl ?_);refine⟨k+1,⟨?_,rfl,rfl,rfl,an⟩,aF.picks [1] (by decide) rfl,hkl,by show N.arcs.length-(k+1)<N.arcs.length-k;omega⟩;exact Gz some (Gz (Value.int .i64) (b5 (n:=(k:Int)+1) (by omega)))
 ·obtain rfl:k=N.arcs.length:=by omega
  rw[Hy (GN _)];have hb:=tq hR N.arcs.length;rw[Hy (GN _)] at hb;refine ad (aa (ah [] rfl ?_));refine ao [] (BK (jA N.arcs) (by unfold bU;omega)) rfl (by kernel_rfl) an (λ _=>rfl) ?_;rintro v H' ⟨rfl,rfl⟩;refine⟨rfl,?_⟩;refine ae [] rfl ?_;exact aA [] (by decide) rfl (ax ⟨_,rfl,rfl,rfl⟩)
def FC(t:lE):LV_:=[.int .i64 t.least,.int .i64 t.p,.int .i64 t.w,.int .i64 t.v]
def km(ts:List lE):LV_:=ts.flatMap FC
theorem zo(l r:List lE):km (l++r)=km l++km r:=by simp[km]
structure SM where
 f:LI
 Af:OA
 cf:Nat
 ts:List lE
 At:OA
 ct:Nat
theorem wd{x:Int}(h0:0<=x)(h1:x<=4611686018427387903):∃ nr,nr<=62/\ia x=cK nr 0/\(nr=0↔x=0):=by
 unfold ia;by_cases h:x<1
 ·rw[if_pos h];exact⟨0,by decide,by rw[kO (GN _)],by simp;omega⟩
 ·rw[if_neg h];have hp:0<x.toNat:=by omega
  have h2:=iG hp;have h3:=ip hp;refine⟨cv x.toNat,?_,?_,?_⟩
  ·have:cv x.toNat-1<62:=(Ik (by decide:1<2)).1 (IN h3 (by omega));omega
  ·unfold cK;rw[if_pos (by omega),Nat.sub_zero]
  ·omega
set_option maxHeartbeats 2000000 in
theorem CE(sg:Int)(hsg:sg=112\/sg=116)(N:aO)(hN:N.Fits)(hR:N.Right)(A:OA)(c b o:Nat)(hA:N.arcs≠[]->A=some ⟨b,o,none⟩)(nr:Nat)(hnr:nr<=62)(hst:ia (jA N.arcs)=cK nr 0):
 Fn 23 [bx N A c,.int .u8 sg] [] [.seg b o (arcs N.arcs)] λ v H'=>∃ (f:LI) (ts:List lE) (Af:OA) (cf:Nat) (At:OA) (ct:Nat),Sc N nr nr f ts/\v=.tuple #[.slice Af f.length cf,.slice At ts.length ct,.int .i64 0]/\
  H'=[.own (.slice Af f.length cf) 2 1 f.length (ay f),.own (.slice At ts.length ct) 103 4 ts.length (km ts)]:=by
 have hl2:=hR.len;refine Bu Tryz.func23 rfl rfl λ w0=>?_;refine lM (aa ?_);refine bz (cs:=bJ N A c) rfl rfl rfl (λ _=>rfl) λ p2=>?_;refine bz rfl rfl rfl (λ _=>rfl) λ p3=>?_;refine ae [] rfl ?_;refine lM ?_
 ·refine ad (aa ?_);refine ab [] (v:=bx N A c) (af 1 rfl) rfl ?_;refine ao [] (iz N hN A c b o hA) rfl (by kernel_rfl) ⟨⟨2,_,by simp,rfl,ak _ _ _,au⟩,trivial⟩ (fun _=>rfl) ?_;rintro v H' ⟨rfl,rfl⟩;refine⟨rfl,?_⟩;rw[hR.check];refine ae [] rfl ?_;refine ad (aa (ae [] rfl ?_));refine aC rfl (fun h=>absurd rfl h) (fun _=>aq ?_);refine lM (vR (Q:=fun e E H=>e=.normal∧lD E [(3,.pointer (some ⟨p3,0,none⟩)),(2,.pointer (some ⟨p2,0,none⟩))]∧H=[blk p3 5 [.int .u8 sg],blk p2 33 (bJ N A c),.seg b o (arcs N.arcs)]) ?_ ?_)
  ·refine ad (aa (ah [] rfl ?_));refine ab [] (v:=.int .u8 sg) (af 0 rfl) rfl ?_
   rcases hsg with rfl|rfl
   ·refine ah [] rfl ?_;refine bd 22 rfl (by decide) ?_;refine ae [2] rfl ?_;refine bG rfl (aq ⟨rfl,⟨rfl,rfl,an⟩,rfl⟩)
   ·refine ah [] rfl ?_;refine bj 22 rfl (by decide) ?_;refine ab [2] (v:=.int .u8 116) (af 0 rfl) rfl ?_;refine ae [2] rfl ?_;refine eu 25 rfl (by decide) ?_;refine bG rfl (aq ⟨rfl,⟨rfl,rfl,an⟩,rfl⟩)
  rintro e E H ⟨rfl,hE,rfl⟩;show W _ _ _ E _
  suffices hW:W ⟨w0,[],⟨62,[]⟩⟩ _ _ [(3,.pointer (some ⟨p3,0,none⟩)),(2,.pointer (some ⟨p2,0,none⟩))] [blk p3 5 [.int .u8 sg],blk p2 33 (bJ N A c),.seg b o (arcs N.arcs)] from λ a w hA hH=>hW a w (hA.ents _ hE) hH
  clear hE E
  refine lM (aa ?_);refine ah [] rfl ?_;refine ab [] (v:=.slice A N.arcs.length c) (af 1 rfl) rfl ?_;refine ah [] rfl ?_;refine di (n:=N.arcs.length) (c:=N.arcs.length) rfl rfl rfl rfl rfl rfl (by omega) (by omega) (by omega) (λ _=>rfl) λ gf=>?_;rw[show made [Value.int .i64 0] (N.arcs.length*1)=ay (List.replicate N.arcs.length 0) by rw[dm,Hf];simp[ay]];refine bu rfl rfl rfl (λ _=>rfl) λ p8=>?_;refine aB 0 rfl [] rfl ?_;refine ai ?_;refine lM (aa ?_);refine bu rfl rfl rfl (λ _=>rfl) λ p9=>?_;refine ai ?_;refine Bc ?_;refine lM (aa ?_);refine ab [] (v:=bx N A c) (af 4 rfl) rfl ?_;refine ao [] (ze N hR A c b o hA) rfl (by kernel_rfl) ⟨⟨5,_,by simp,rfl,ak _ _ _,au⟩,an⟩ (λ _=>rfl) ?_;rintro v H' ⟨rfl,rfl⟩;refine⟨rfl,?_⟩;rw[hst];refine ao [] (yF (cK nr 0)) rfl (by kernel_rfl) an (λ _=>rfl) ?_;rintro v H' ⟨pc,rfl,rfl⟩;refine⟨rfl,?_⟩;refine fw 103 4 ?_
  refine bX (K:=blk pc 2 [.int .i64 (cK nr 0)]::[blk p8 45 [.slice (some ⟨gf,0,none⟩) (List.replicate N.arcs.length (0:Int)).length N.arcs.length],.own (.slice (some ⟨gf,0,none⟩) (List.replicate N.arcs.length (0:Int)).length N.arcs.length) 2 1 (List.replicate N.arcs.length (0:Int)).length (ay (List.replicate N.arcs.length 0)),
   blk p9 60 [.slice none ([]:List lE).length 0],.own (.slice none ([]:List lE).length 0) 103 4 ([]:List lE).length (km []),blk p2 33 (bJ N A c),blk p3 5 [.int .u8 sg],.seg b o (arcs N.arcs)]) (by
    rw[G3];exact aF.picks [1,3,4,2,0,6,5,7] (by decide) rfl) ?_
  refine ai ?_;refine xB ?_
  refine AB (p:=pc) (ty:=2) (n0:=cK nr 0) (nr:=nr) (x:=AR nr) (gf:=86) (lb:=[.pointer (some ⟨pc,0,none⟩)]) (σ:=SM)
   (λ s=>[blk p8 45 [.slice s.Af s.f.length s.cf],.own (.slice s.Af s.f.length s.cf) 2 1 s.f.length (ay s.f),blk p9 60 [.slice s.At s.ts.length s.ct],.own (.slice s.At s.ts.length s.ct) 103 4 s.ts.length (km s.ts),blk p2 33 (bJ N A c),blk p3 5 [.int .u8 sg],.seg b o (arcs N.arcs)])
   (λ k s=>Sc N nr k s.f s.ts) ⟨_,some ⟨gf,0,none⟩,N.arcs.length,[],none,0⟩ rfl (by kernel_rfl) (sB pc nr (by omega)) (λ _ _=>rfl) rfl .nil ?_ ?_
  ·rintro r D k ⟨f,Af,cf,ts,At,ct⟩ y rdy bsy hk hS;simp only at hS ⊢;refine fY rfl ?_;refine ae [] rfl ⟨rfl,?_⟩;obtain⟨_,hf,htl,_⟩:=hS.all hR;have hfl:=hf.len;have hpos:=kU hk;have hle:=Cj (nr:=nr) (k:=k) (by omega);refine uf (vX (fY rfl ?_));refine eL (a8 4 rfl) fun ⟨_,_,hAf,hlf⟩=>?_;obtain⟨gf2,hAf⟩:=bQ hAf hlf;refine ab [] (v:=bx N A c) (af 7 rfl) rfl ?_;refine ab [] (v:=.slice Af f.length cf) (af 3 rfl) rfl ?_;refine ah [] rfl ?_;refine ab [] (v:=.int .u8 sg) (af 8 rfl) rfl ?_;refine ao [] (B1 N hN hR A c b o hA f hf Af cf gf2 0 (fun h=>hAf (by simpa [ay] using h)) (cK nr k) hpos (by unfold bU;omega) sg hsg) rfl (by kernel_rfl) ⟨⟨9,_,by simp,rfl,ak _ _ _,au⟩,⟨4,_,by simp,rfl,aL hAf,a7 hAf⟩,trivial⟩ (fun _=>rfl) ?_;rintro v H' ⟨f1,ph,wk,st,A1,c1,hdn,_,_,_,_,_,rfl,rfl⟩;obtain⟨hf1,_,_,_⟩:=hdn.keeps hR hpos hf;have hf1l:=hf1.len;refine⟨rfl,?_⟩;refine ah [] rfl ?_;refine bu rfl rfl rfl (fun _=>rfl) fun p11=>?_;refine aB 0 rfl [] rfl ?_;refine ae [] rfl ?_;refine vX (fY rfl ?_);refine eL (a8 1 rfl) fun ⟨_,_,hA1,hl1⟩=>?_;obtain⟨g1,hA1⟩:=bQ hA1 hl1;refine ah [] rfl ?_;refine ab [] (v:=.slice A1 f1.length c1) (af 0 rfl) rfl ?_;refine aB 5 rfl [] rfl ?_;refine ai ?_;refine vX (fY rfl ?_);refine ab [] (v:=bx N A c) (af 9 rfl) rfl ?_;refine ab [] (v:=.slice A1 f1.length c1) (af 5 rfl) rfl ?_;refine ao [] (eY N hN hR A c b o hA f1 A1 c1 g1 0 (fun h=>hA1 (by simpa [ay] using h)) (aK.inB hR hf1.toRanged) (by omega)) rfl (by kernel_rfl) ⟨⟨11,_,by simp,rfl,ak _ _ _,au⟩,⟨1,_,by simp,rfl,aL hA1,a7 hA1⟩,trivial⟩ (fun _=>rfl) ?_;rintro v H' ⟨⟨rfl,_⟩|⟨_,h⟩,rfl⟩
   case inr=>exact absurd hf1 h
   refine⟨rfl,?_⟩;refine ae [] rfl ?_;refine fY rfl ?_;refine ab [] (v:=.slice At ts.length ct) (af 7 rfl) rfl ?_;refine ah [] rfl ?_;refine ab [] (v:=.int .i64 ph) (af 0 rfl) rfl ?_;refine ah [] rfl ?_;refine ab [] (v:=.int .i64 wk) (af 0 rfl) rfl ?_;refine ah [] rfl ?_;refine ab [] (be rfl rfl rfl rfl rfl rfl) rfl ?_;refine bC rfl rfl rfl rfl rfl rfl rfl (λ _=>rfl) λ g5=>?_;refine bn (n:=ts.length) (m:=1) (off:=0) (news:=km [⟨cK nr k,ph,wk,da (N.arcs.zip f1) N.snk⟩]) 9 0 rfl rfl rfl rfl rfl rfl (by decide) rfl rfl (aD g5 _ _ (0,0)) (λ _=>rfl) rfl rfl (by omega) (by omega) (λ _ _=>rfl) λ A2 c2=>?_;refine aB 8 rfl [] rfl ?_;refine ai ⟨⟨f1,A1,c1,ts++[⟨cK nr k,ph,wk,da (N.arcs.zip f1) N.snk⟩],A2,c2⟩,.step hS hk hdn,?_⟩;simp only[zo,GE,GG,GX];exact aF.picks [3,4,5,6,2,8,9,10,11,12] (by decide) rfl
  ·rintro D a w ⟨f,Af,cf,ts,At,ct⟩ y hS hA hH;simp only at hS hH;show Code.wp Tryz.prog _ _ a w;refine Ea (fn:=Tryz.f23) (E:=[(9,.pointer (some ⟨p9,0,none⟩)),(8,.pointer (some ⟨p8,0,none⟩))]) (H:=[.obj D qc,blk pc 2 [.int .i64 y],blk p8 45 [.slice Af f.length cf],.own (.slice Af f.length cf) 2 1 f.length (ay f),blk p9 60 [.slice At ts.length ct],.own (.slice At ts.length ct) 103 4 ts.length (km ts),blk p2 33 (bJ N A c),blk p3 5 [.int .u8 sg],.seg b o (arcs N.arcs)]) (D:=D) ?_ (hA.ents _ ⟨rfl,rfl,an⟩) hH;refine ad ?_;refine bq 5 (cY [0,1,2,3,4]) [2,4] (by kernel_rfl) (by decide) rfl ?_;refine aj [] rfl (af (v:=.slice Af f.length cf) 0 rfl) rfl ?_;refine aj [] rfl (af (v:=.slice At ts.length ct) 1 rfl) rfl ?_;refine dy [] rfl ?_;refine ai ?_;refine ax ?_;refine⟨.inr rfl,[.own (.slice Af f.length cf) 2 1 f.length (ay f),.own (.slice At ts.length ct) 103 4 ts.length (km ts)],[0,3,5],by decide,rfl,_,rfl,f,ts,Af,cf,At,ct,hS,rfl,rfl⟩
end Go.Proofs.YtmcnpaelaieniaaGreatDoor
