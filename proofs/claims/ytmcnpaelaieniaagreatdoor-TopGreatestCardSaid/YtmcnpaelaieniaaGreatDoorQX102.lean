import Derived.Test.YtmcnpaelaieniaaGreatDoorQX100
import Derived.Test.YtmcnpaelaieniaaGreatDoorQX70
import Derived.Test.YtmcnpaelaieniaaGreatDoorQA
import Derived.Test.YtmcnpaelaieniaaGreatDoorQB
import Derived.Test.YtmcnpaelaieniaaGreatDoorQF
/- A part of the proof; see NOTES.md. -/
set_option linter.unusedVariables false
set_option linter.unusedSimpArgs false
namespace Go.Proofs.YtmcnpaelaieniaaGreatDoor
open Go.RowKit
theorem yi(n:Int):Fn 44 [.int .i64 n] [] [] λ v H'=>∃ p,v=.func (.func 86) #[] #[.pointer (some ⟨p,0,none⟩)]/\H'=[blk p 2 [.int .i64 n]]:=by
 refine aJ Tryz.func44 rfl rfl λ w0=>?_;refine ad (aa ?_);refine bx rfl rfl rfl (λ _=>rfl) λ b=>?_;refine ae [] rfl ?_;refine ad (aa (ae [] rfl ?_));exact ay ⟨_,rfl,b,rfl,rfl⟩
section
variable {G:Nat->World->Prop} {n:Nat} {E:Env} {k nr l:Nat} {x:Nat->LV_} {ops:List Oper} {R:Exit->Act->World->Prop}
theorem yK{l2:List Oper}{o:Oper}{f:Operand}{args:Array Operand}{ts:Array TypeId}{E':Env}(gs:LN)(hY:∀ k W,k<nr->G k W->YieldAt Fence.wide 0 Tryz.prog l (x k).toArray W λ e W'=>e=.returned (.bool true)/\G (k+1) W')(hk:k<nr)
 (ho:o.op=.call ⟨.value f,args,ts⟩) (hf:val E f=some (.func (.yield l) #[] #[])) (ha:vals E args.toList=some (x k)) (hb:jH ⟨n,[]⟩ ops gs E o (.bool true)=some E') (h:JY G n ops l2 R E' (k+1)):JY G n ops (o::l2) R E k:=by
 intro a w hA hJ;obtain⟨hg,hp⟩:=db hb;obtain⟨fn,tmps,assign,body,hy,hr⟩:=hY k w hk hJ;unfold wpListIn;rw[if_pos (ce hA hg)];refine⟨λ _ _=>trivial,?_⟩
 have e1:args.map a.eval=(x k).toArray:=by
  rw[<- hA.vals _ _ ha];exact Array.ext' (by simp)
 have hs:o.semAt Fence.wide.round a.eval=execOp a.eval o:=Oper.semAt_none a.eval o
 have he:(execOp a.eval o).run Tryz.prog w=.ok (.round l fn tmps assign body) w:=by
  simp[execOp,ho,resolve,invoke,Deferred.ofValue,hA.val hf,e1,hy]
 rw[hs,he,Oper.uponIn_round];refine⟨λ hd=>(by simp[Fence.wide] at hd),hr.mono ?_⟩;rintro e W' ⟨rfl,hJ'⟩;exact h _ _ (hA.putE hp) hJ'
end
def Bo(nr:Nat)(k:Nat):LV_:=[.int .i64 (cG nr k)]
set_option maxHeartbeats 1000000 in
theorem su(p nr:Nat)(hnr:nr<=63):Ad 86 [.pointer (some ⟨p,0,none⟩)] p 2 (cG nr 0) nr (Bo nr):=by
 intro l J w hJS hJm hY h0;refine calls_of_wp Tryz.func86 rfl ?_;have hA0:=kB (n:=12) (args:=[.func (.yield l) #[] #[],.pointer (some ⟨p,0,none⟩)]) rfl;refine wp_block (wp_loop_ghost (λ m a w=>∃ k,m=nr-k/\k<=nr/\eR ⟨12,[]⟩ a [(1,.pointer (some ⟨p,0,none⟩)),(0,.func (.yield l) #[] #[])]/\J k (cG nr k) w) nr ⟨0,rfl,GB _,hA0.ents _ ⟨rfl,rfl,an⟩,h0⟩ ?_);rintro m a w ⟨k,rfl,hk,hA,hG⟩;obtain⟨G,hGe⟩:∃ G:Nat->World->Prop,G=λ j W=>J j (cG nr k) W:=⟨_,rfl⟩
 have hGS:∀ j W,G j W->∀ c∈[aV.seg p 0 [.int .i64 (cG nr k)]],c.holds W:=by
  rintro j W hj c hc;rw[hGe] at hj;rw[Gy.1 hc];exact λ i v hv=>aF p 2 _ (0,0) W (hJS j _ W hj) i v hv
 have hGa:∀ j W W',G j W->cO W [] W' []->G j W':=by
  intro j W W' hj h;rw[hGe] at hj ⊢;have hc:=hJS j _ W hj
  exact hJm j _ _ W W' hj ⟨h.os,h.tape,h.output,h.size,λ k hk _=>h.keep k hk (by simp),λ c hc'=>by
   rw[Gy.1 hc'];exact aV.holds_of hc λ b hb=>h.keep b (aV.at_lt hc hb) (by simp),λ c hc' b hb=>.inr (by rw[Gy.1 hc'] at hb;simp[aV.mine] at hb;simp[hb]),If _ _⟩
 have hYG:∀ j W,j<nr->G j W->YieldAt Fence.wide 0 Tryz.prog l (Bo nr j).toArray W λ e W'=>e=.returned (.bool true)/\G (j+1) W':=by
  intro j W hj hG;rw[hGe] at hG ⊢;exact hY j _ W hj hG
 have hG':G k w:=by rw[hGe];exact hG
 suffices hWG:WG G 12 _ _ [(1,.pointer (some ⟨p,0,none⟩)),(0,.func (.yield l) #[] #[])] k from hWG _ _ hA hG'
 clear hA hG hG'
 by_cases hlt:k<nr
 ·have hpos:=lD hlt;refine j7 ?_;refine j7 (rC ?_);refine sV (S:=[.seg p 0 [.int .i64 (cG nr k)]]) (F:=[(5,.bool true),(6,.func (.yield l) #[] #[]),(7,.int .i64 (cG nr k)),(1,.pointer (some ⟨p,0,none⟩)),(0,.func (.yield l) #[] #[])]) 5 rfl hGS hGa rfl (λ w=>?_) ?_
  ·show JL _ _ [_,_,_,_,_] _ _ _;refine ab [] (a8 (i:=0) 0 rfl rfl rfl) rfl ?_;refine ah [] rfl ?_;refine bd 5 rfl (by omega) ?_;refine ah [2] rfl ?_;refine ab [2] (a8 (i:=0) 0 rfl rfl rfl) rfl ?_;exact ai ⟨rfl,rfl,rfl,rfl,rfl,an⟩
  ·refine yK [2] hYG hlt rfl rfl rfl rfl ?_;refine sV (S:=[.seg p 0 [.int .i64 (cG nr k)]]) (F:=[(9,.bool true),(1,.pointer (some ⟨p,0,none⟩)),(0,.func (.yield l) #[] #[])]) 1 rfl hGS hGa rfl (λ w=>?_) (AJ λ a w hA hG=>?_)
   ·exact ae [] rfl ⟨rfl,rfl,rfl,an⟩
   ·refine wp_cond_true (hA.val (x:=.tmp 9) rfl) (wp_skip ?_)
    suffices hWG:WG G 12 _ _ [(9,.bool true),(1,.pointer (some ⟨p,0,none⟩)),(0,.func (.yield l) #[] #[])] (k+1) from hWG _ _ hA hG
    refine j7 λ a w hA hG=>wp_block (wp_skip ?_)
    suffices hWG:WG G 12 _ _ [(9,.bool true),(1,.pointer (some ⟨p,0,none⟩)),(0,.func (.yield l) #[] #[])] (k+1) from hWG _ _ hA hG
    refine yI (M:=[p]) (S:=[blk p 2 [.int .i64 (cG nr k)]]) (Q:=Cs λ E' H'=>lK E' [(1,.pointer (some ⟨p,0,none⟩)),(0,.func (.yield l) #[] #[])]/\H'=[blk p 2 [.int .i64 (cG nr (k+1))]]) (λ W hW=>?_) (λ w=>?_) ?_
    ·rw[hGe] at hW;exact BK (hJS _ _ W hW)
    ·skip
     refine aa (ah [] rfl ?_);refine ab [] (v:=.int .i64 (cG nr k)) (af 0 rfl) rfl ?_;refine ab [] (C6 (b:=1) rfl rfl rfl) rfl ?_
     refine aI 11 (v':=.int .i64 (cG nr (k+1))) rfl (Gt (Value.int .i64) (by
      rw[wx];show Int.fdiv (cG nr k) (2^1)=_;rw[IW _ (by decide)];rfl)) ?_
     refine aA 0 rfl [] rfl ?_;exact ai ⟨⟨rfl,rfl,an⟩,rfl⟩
    ·rintro e E2 a2 w2 hA2 ⟨w1,H',hG1,hH',hq⟩
     cases e with
     |normal=>
      obtain⟨hq1,rfl⟩:=hq;rw[hGe] at hG1;exact⟨nr-(k+1),by omega,k+1,rfl,hlt,hA2.ents _ hq1,hJm (k+1) _ _ w1 w2 hG1 hH'⟩
     |_=>exact hq.elim
 ·obtain rfl:k=nr:=by omega
  refine j7 (kq (Q:=λ e _ _=>e=.exit 0) (S:=[.seg p 0 [.int .i64 (cG k k)]]) rfl hGS hGa (λ w=>?_) ?_)
  ·refine ad (aa ?_);refine ab [] (a8 (i:=0) 0 rfl rfl rfl) rfl ?_;refine ah [] rfl ?_;refine aX 5 rfl (by rw[lA (GF _)];decide) ?_;refine ae [2] rfl ?_;exact bG rfl (bc rfl)
  ·rintro e E1 a1 w1 hA1 hG1 ⟨_,_,_,rfl⟩;simp only[Exit.then,Exit.inBlock,Ij];rw[hGe] at hG1;exact⟨hA1.defers,_,gH (E:=[]) (hA1.ents [] an) rfl _,⟨_,rfl⟩,_,hG1⟩
variable {X:Cx} {Q:dQ} {E E':Env} {H:Heap}
def cA(n:Nat):Nat:=if n=0 then 0 else n.log2+1
theorem rR(n:Nat):n<2^cA n:=by
 unfold cA;split
 ·omega
 ·exact Nat.lt_log2_self
theorem jq{n:Nat}(h:0<n):2^(cA n-1)<=n:=by
 unfold cA;rw[if_neg (by omega),Nat.add_sub_cancel];exact Nat.log2_self_le (by omega)
theorem kb{n:Nat}(h:0<n):0<cA n:=by unfold cA;rw[if_neg (by omega)];omega
theorem tv{n k:Nat}(h1:2^k<=n)(h2:n<2^(k+1)):cA n=k+1:=by
 have hn:0<n:=Il (Nat.two_pow_pos k) h1;have h3:=rR n;have h4:=jq hn;have h5:=kb hn;have h6:k<cA n:=(Ic (by decide:1<2)).1 (IH h1 h3);have h7:cA n-1<k+1:=(Ic (by decide:1<2)).1 (IH h4 h2);omega
theorem jI{n c:Nat}(h:2^c<=n):cA n=c+cA (n/2^c):=by
 have hc:=Nat.two_pow_pos c;have hp:0<n/2^c:=Nat.div_pos h hc;have h1:=rR (n/2^c);have h2:=jq hp;have h3:=kb hp
 have e:cA n=(c+(cA (n/2^c)-1))+1:=by
  apply tv
  ·rw[Nat.pow_add,Nat.mul_comm];exact HG (HE _ h2) (Nat.div_mul_le_self n _)
  ·rw[show c+(cA (n/2^c)-1)+1=cA (n/2^c)+c by omega,Nat.pow_add];exact (Nat.div_lt_iff_lt_mul hc).1 h1
 omega
def jZ:ByteArray:=⟨((List.range 256).map λ i=>UInt8.ofNat (cA i)).toArray⟩
theorem zu{m:Nat}(h:m<256):jZ[m]?=some (UInt8.ofNat (cA m)):=by
 have:jZ.size=256:=by simp[jZ,ByteArray.size]
 have hg:jZ.data[m]?=some (UInt8.ofNat (cA m)):=by simp[jZ,h]
 have hm:m<jZ.size:=by omega
 rw[getElem?_pos jZ m hm];have hm':m<jZ.data.size:=hm;rw[Array.getElem?_eq_getElem hm'] at hg;exact hg
theorem mB{m:Nat}(h:m<256):cA m<=8:=by
 rcases IF m with rfl|hp
 ·decide
 ·have:=jq hp;have h7:cA m-1<8:=(Ic (by decide:1<2)).1 (IH this h);omega
theorem Cj{o:Oper}{t s1 s2 m:Nat}{x ix:Operand}{s:ByteArray}{k:IntKind}{z:Option Value}(ho:o.op=.index t x ix)(hx:val E x=some (.string s))(hs:s=jZ)(hi:val E ix=some (.int k (m:Int)))
 (ht:tab t=some ⟨.string,s1,s2,z⟩) (hm:m<256):gz X o E H (.int .u8 (cA m:Nat)):=by
 intro a w hA hH;have h1:=zu hm;have h2:=mB hm;subst hs;have h0:(0:Int)<=(m:Int):=by omega
 simp[execOp,ho,hA.val hx,hA.val hi,Instr.index,asIntOf,run_underlying (iA ht),h1];omega
theorem Gi{n:Int}(h:0<=n/\n<18446744073709551616):IntKind.u64.wrap n=n:=by
 simp only[IntKind.wrap,IntKind.bits,IntKind.signed];simp;omega
theorem Gm{n:Int}(h:0<=n/\n<256):IntKind.u8.wrap n=n:=by
 simp only[IntKind.wrap,IntKind.bits,IntKind.signed];simp;omega
theorem qc(n k:Nat):Int.fdiv (n:Int) (2^k)=((n/2^k:Nat):Int):=by
 rw[IW _ (by exact_mod_cast GB _)]
 norm_cast
theorem z6(n:Nat)(hn:n<18446744073709551616):Fn 78 [.int .u64 n] [] [] λ v H'=>v=.int .i64 (cA n:Nat)/\H'=[]:=by
 have st1:∃ x a:Nat,(4294967296<=n->x=n/2^32/\a=32)/\(¬ 4294967296<=n->x=n/\a=0):=by
  by_cases h:4294967296<=n
  ·exact⟨_,_,λ _=>⟨rfl,rfl⟩,λ h'=>absurd h h'⟩
  ·exact⟨_,_,λ h'=>absurd h' h,λ _=>⟨rfl,rfl⟩⟩
 obtain⟨x1,a1,p1,q1⟩:=st1
 have st2:∃ x a:Nat,(65536<=x1->x=x1/2^16/\a=a1+16)/\(¬ 65536<=x1->x=x1/\a=a1):=by
  by_cases h:65536<=x1
  ·exact⟨_,_,λ _=>⟨rfl,rfl⟩,λ h'=>absurd h h'⟩
  ·exact⟨_,_,λ h'=>absurd h' h,λ _=>⟨rfl,rfl⟩⟩
 obtain⟨x2,a2,p2,q2⟩:=st2
 have st3:∃ x a:Nat,(256<=x2->x=x2/2^8/\a=a2+8)/\(¬ 256<=x2->x=x2/\a=a2):=by
  by_cases h:256<=x2
  ·exact⟨_,_,λ _=>⟨rfl,rfl⟩,λ h'=>absurd h h'⟩
  ·exact⟨_,_,λ h'=>absurd h' h,λ _=>⟨rfl,rfl⟩⟩
 obtain⟨x3,a3,p3,q3⟩:=st3
 have f1:x1<4294967296/\a1<=32/\cA n=a1+cA x1:=by
  by_cases h:4294967296<=n
  ·obtain⟨rfl,rfl⟩:=p1 h;exact⟨by omega,by omega,jI (c:=32) h⟩
  ·obtain⟨rfl,rfl⟩:=q1 h;exact⟨by omega,by omega,by omega⟩
 have f2:x2<65536/\a2<=48/\cA n=a2+cA x2:=by
  by_cases h:65536<=x1
  ·obtain⟨rfl,rfl⟩:=p2 h;exact⟨by omega,by omega,by rw[f1.2.2,jI (c:=16) h];omega⟩
  ·obtain⟨rfl,rfl⟩:=q2 h;exact⟨by omega,by omega,f1.2.2⟩
 have f3:x3<256/\a3<=56/\cA n=a3+cA x3:=by
  by_cases h:256<=x2
  ·obtain⟨rfl,rfl⟩:=p3 h;exact⟨by omega,by omega,by rw[f2.2.2,jI (c:=8) h];omega⟩
  ·obtain⟨rfl,rfl⟩:=q3 h;exact⟨by omega,by omega,f2.2.2⟩
 refine aJ Tryz.func78 rfl rfl λ w0=>?_;refine ad (aa (ae [] rfl ?_));refine fj [(0,.int .u64 x1),(2,.int .i64 a1)] [] ?_ ?_
 ·refine ad (aa (ae [] rfl ?_));refine aC rfl (λ h=>?_) (λ h=>aq ?_)
  ·obtain⟨h1,h2⟩:=p1 (by omega);refine ad (aa (ae [] rfl ?_));refine aa (ae [] rfl ?_);exact⟨[],⟨by rw[h1,<- qc];rfl,by rw[h2];rfl,an⟩,by decide,rfl⟩
  ·obtain⟨h1,h2⟩:=q1 (by omega);exact⟨[],⟨by rw[h1];rfl,by rw[h2];rfl,an⟩,by decide,rfl⟩
 refine fj [(0,.int .u64 x2),(2,.int .i64 a2)] [] ?_ ?_
 ·refine ad (aa (ae [] rfl ?_));refine aC rfl (λ h=>?_) (λ h=>aq ?_)
  ·obtain⟨h1,h2⟩:=p2 (by omega);refine ad (aa (ae [] rfl ?_));refine aa (ae [] rfl ?_);exact⟨[],⟨by rw[h1,<- qc];rfl,by rw[h2,IG,<- cv (n:=(a1:Int)+((16:Nat):Int)) (by omega)];rfl,an⟩,by decide,rfl⟩
  ·obtain⟨h1,h2⟩:=q2 (by omega);exact⟨[],⟨by rw[h1];rfl,by rw[h2];rfl,an⟩,by decide,rfl⟩
 refine fj [(0,.int .u64 x3),(2,.int .i64 a3)] [] ?_ ?_
 ·refine ad (aa (ae [] rfl ?_));refine aC rfl (λ h=>?_) (λ h=>aq ?_)
  ·obtain⟨h1,h2⟩:=p3 (by omega);refine ad (aa (ae [] rfl ?_));refine aa (ae [] rfl ?_);exact⟨[],⟨by rw[h1,<- qc];rfl,by rw[h2,IG,<- cv (n:=(a2:Int)+((8:Nat):Int)) (by omega)];rfl,an⟩,by decide,rfl⟩
  ·obtain⟨h1,h2⟩:=q3 (by omega);exact⟨[],⟨by rw[h1];rfl,by rw[h2];rfl,an⟩,by decide,rfl⟩
 refine ad (aa (ah [] rfl ?_));refine aI 21 (v':=.int .u8 x3) rfl (Gt (Value.int .u8) (Gm (by omega))) ?_;refine ab [] (Cj rfl rfl (by kernel_rfl) rfl rfl f3.1) rfl ?_;refine ae [] rfl ?_;refine ay ⟨_,rfl,Gt (Value.int .i64) ?_,rfl⟩;have:=mB f3.1;rw[cv (n:=((cA x3:Nat):Int)) (by omega),cv (by omega)];omega
def FA(n:Int):Nat:=if n<2 then 0 else cA (n-1).toNat
def im(n:Int):Int:=if n<1 then 0 else 2^(cA n.toNat-1)
theorem AN(n:Int)(hn:dn n):Fn 87 [.int .i64 n] [] [] λ v H'=>v=.int .i64 (im n)/\H'=[]:=by
 unfold dn at hn;refine aJ Tryz.func87 rfl rfl λ w0=>?_;refine ad (aa (ae [] rfl ?_));refine ad (ad (aa (ae [] rfl ?_)));refine aC rfl (λ h=>?_) (λ h=>?_)
 ·refine ad (aa (ae [] rfl ?_));exact ay ⟨_,rfl,by unfold im;rw[if_pos h];rfl,rfl⟩
 ·have hp:0<n.toNat:=by omega
  have h1:=jq hp;have h2:=kb hp;have h3:cA n.toNat-1<63:=(Ic (by decide:1<2)).1 (IH h1 (by omega));refine aq (ad (aa (ah [] rfl ?_)));refine aI 6 (v':=.int .u64 (n.toNat:Nat)) rfl (Gt (Value.int .u64) ?_) ?_
  ·rw[Gi (by omega)];omega
  refine ap [] (z6 n.toNat (by omega)) rfl (by kernel_rfl) an (λ _=>rfl) ?_;rintro v H' ⟨rfl,rfl⟩;refine⟨rfl,?_⟩;refine ah [] rfl ?_;refine aI 8 (v':=.int .i64 ((cA n.toNat-1:Nat):Int)) rfl (Gt (Value.int .i64) ?_) ?_
  ·rw[cv (by omega)];omega
  refine ab [] (Db rfl rfl rfl) rfl ?_;refine ae [] rfl ?_;refine ay ⟨_,rfl,Gt (Value.int .i64) ?_,rfl⟩;unfold im;rw[if_neg h,Int.one_mul,H9 (by simp[IntKind.bits];omega)];have h4:((2^(cA n.toNat-1):Nat):Int)<=n:=by omega
  rw[Int.natCast_pow] at h4;have h5:(0:Int)<=2^(cA n.toNat-1):=by exact_mod_cast GB _
  exact cv ⟨by omega,by exact I3 h4 hn.2⟩
theorem qy:∀ {l:List dI},(∀ a∈l,0<=a.cap)->∀ {a:dI},a∈l->a.cap<=(l.map (·.cap)).sum
 |[],_,_,h=>by simp at h
 |b::l,hp,a,h=>by
  have h0:=hp b (by simp)
  have hs:0<=(l.map (·.cap)).sum:=fv _ λ x hx=>by
   obtain⟨d,hd,rfl⟩:=GR.1 hx;exact hp d (by simp[hd])
  simp only[GG,GT]
  rcases GD.1 h with rfl|h
  ·omega
  ·have:=qy (λ d hd=>hp d (by simp[hd])) h;omega
theorem ue{N:aU}(hR:N.Right)(k:Nat):0<=jC (N.arcs.take k)/\jC (N.arcs.take k)<=4611686018427387903:=by
 obtain⟨h1,h2,h3⟩:=qz (N.arcs.take k) 0 λ a ha=>(hR.arc a (Hl ha)).2.2;refine⟨h1,?_⟩;unfold jC
 rcases h3 with h|⟨a,ha,h⟩
 ·rw[h];decide
 ·rw[h];have hs:=hR.sum;have:=qy (λ d hd=>(hR.arc d hd).2.2) (Hl ha);omega
theorem x5(N:aU)(hR:N.Right)(A:OA)(c b o:Nat)(hA:N.arcs≠[]->A=some ⟨b,o,none⟩):Fn 45 [bp N A c] [] [.seg b o (arcs N.arcs)] λ v H'=>v=.int .i64 (im (jC N.arcs))/\H'=[]:=by
 have hl2:=hR.len;refine aJ Tryz.func45 rfl rfl λ w0=>?_;refine ad (aa ?_);refine bx (cs:=bI N A c) rfl rfl rfl (λ _=>rfl) λ p1=>?_;refine ae [] rfl ?_;refine ad (aa (ae [] rfl ?_));refine ad (ad (aa (ah [] rfl ?_)));refine ab [] (v:=.slice A N.arcs.length c) (af 0 rfl) rfl ?_;refine ae [] rfl ?_;refine au ?_
 refine b6 (σ:=Nat) (λ t=>[(9,.int .i64 (t:Int)),(3,.int .i64 (jC (N.arcs.take t))),(8,.int .i64 (N.arcs.length:Int)),(7,.slice A N.arcs.length c)])
  (λ _=>[.seg b o (arcs N.arcs)]) (λ t=>t<=N.arcs.length) (λ t=>N.arcs.length-t) 0 ⟨rfl,rfl,rfl,rfl,an⟩ (aH.picks [1] (by decide) rfl) (GB _) ?_
 intro k hk;refine ad (aa (ae [] rfl ?_));refine ad (aC rfl (λ hlt=>aq ?_) (λ hge=>bc ?_))
 ·have hkl:k<N.arcs.length:=by omega
  obtain⟨a,ha⟩:∃ a,N.arcs[k]?=some a:=⟨N.arcs[k],Gq hkl⟩;obtain rfl:=hA (by intro h0;rw[h0] at hkl;simp at hkl);refine ad (au ?_);refine ad (aa (ah [] rfl ?_));refine ab [] (e6 rfl hkl) rfl ?_;refine ab [] (a8 0 rfl rfl (eY ha)) rfl ?_;refine bo rfl rfl rfl (λ _=>rfl) λ q=>?_;refine aA 0 rfl [] rfl ?_;refine ai ?_;refine aa (ah [] rfl ?_);refine ab [] (v:=.int .i64 a.cap) (af 0 rfl) rfl ?_;refine am (gs:=[]) rfl ?_;refine aI 16 (v':=.int .i64 (jC (N.arcs.take (k+1)))) rfl (by rw[GO,ha];unfold jC;rw[Iy];rfl) ?_;refine ae [] rfl ?_;refine aa (ae [] rfl ?_);refine⟨k+1,⟨?_,rfl,rfl,rfl,an⟩,aH.picks [1] (by decide) rfl,hkl,by show N.arcs.length-(k+1)<N.arcs.length-k;omega⟩;exact Gt some (Gt (Value.int .i64) (cv (n:=(k:Int)+1) (by omega)))
 ·obtain rfl:k=N.arcs.length:=by omega
  rw[Hr (GF _)];have hb:=ue hR N.arcs.length;rw[Hr (GF _)] at hb;refine ad (aa (ah [] rfl ?_));refine ap [] (AN (jC N.arcs) (by unfold dn;omega)) rfl (by kernel_rfl) an (λ _=>rfl) ?_;rintro v H' ⟨rfl,rfl⟩;refine⟨rfl,?_⟩;refine ae [] rfl ?_;exact az [] (by decide) rfl (ay ⟨_,rfl,rfl,rfl⟩)
def Ft(t:lH):LV_:=[.int .i64 t.least,.int .i64 t.p,.int .i64 t.w,.int .i64 t.v]
def kS(ts:List lH):LV_:=ts.flatMap Ft
theorem zC(l r:List lH):kS (l++r)=kS l++kS r:=by simp[kS]
structure SM where
 f:LI
 Af:OA
 cf:Nat
 ts:List lH
 At:OA
 ct:Nat
theorem vR{x:Int}(h0:0<=x)(h1:x<=4611686018427387903):∃ nr,nr<=62/\im x=cG nr 0/\(nr=0↔x=0):=by
 unfold im;by_cases h:x<1
 ·rw[if_pos h];exact⟨0,by decide,by rw[lA (GF _)],by simp;omega⟩
 ·rw[if_neg h];have hp:0<x.toNat:=by omega
  have h2:=kb hp;have h3:=jq hp;refine⟨cA x.toNat,?_,?_,?_⟩
  ·have:cA x.toNat-1<62:=(Ic (by decide:1<2)).1 (IH h3 (by omega));omega
  ·unfold cG;rw[if_pos (by omega),Nat.sub_zero]
  ·omega
set_option maxHeartbeats 2000000 in
theorem wH(sg:Int)(hsg:sg=112\/sg=116)(N:aU)(hN:N.Fits)(hR:N.Right)(A:OA)(c b o:Nat)(hA:N.arcs≠[]->A=some ⟨b,o,none⟩)(nr:Nat)(hnr:nr<=62)(hst:im (jC N.arcs)=cG nr 0):
 Fn 23 [bp N A c,.int .u8 sg] [] [.seg b o (arcs N.arcs)] λ v H'=>∃ (f:LI) (ts:List lH) (Af:OA) (cf:Nat) (At:OA) (ct:Nat),Sc N nr nr f ts/\v=.tuple #[.slice Af f.length cf,.slice At ts.length ct,.int .i64 0]/\
  H'=[.own (.slice Af f.length cf) 2 1 f.length (ax f),.own (.slice At ts.length ct) 103 4 ts.length (kS ts)]:=by
 have hl2:=hR.len;refine Bb Tryz.func23 rfl rfl λ w0=>?_;refine lL (aa ?_);refine bx (cs:=bI N A c) rfl rfl rfl (λ _=>rfl) λ p2=>?_;refine bx rfl rfl rfl (λ _=>rfl) λ p3=>?_;refine ae [] rfl ?_;refine lL ?_
 ·refine ad (aa ?_);refine ab [] (v:=bp N A c) (af 1 rfl) rfl ?_;refine ap [] (iJ N hN A c b o hA) rfl (by kernel_rfl) ⟨⟨2,_,by simp,rfl,ak _ _ _,av⟩,trivial⟩ (fun _=>rfl) ?_;rintro v H' ⟨rfl,rfl⟩;refine⟨rfl,?_⟩;rw[hR.check];refine ae [] rfl ?_;refine ad (aa (ae [] rfl ?_));refine aC rfl (fun h=>absurd rfl h) (fun _=>aq ?_);refine lL (wB (Q:=fun e E H=>e=.normal∧lK E [(3,.pointer (some ⟨p3,0,none⟩)),(2,.pointer (some ⟨p2,0,none⟩))]∧H=[blk p3 5 [.int .u8 sg],blk p2 33 (bI N A c),.seg b o (arcs N.arcs)]) ?_ ?_)
  ·refine ad (aa (ah [] rfl ?_));refine ab [] (v:=.int .u8 sg) (af 0 rfl) rfl ?_
   rcases hsg with rfl|rfl
   ·refine ah [] rfl ?_;refine aX 22 rfl (by decide) ?_;refine ae [2] rfl ?_;refine bG rfl (aq ⟨rfl,⟨rfl,rfl,an⟩,rfl⟩)
   ·refine ah [] rfl ?_;refine bd 22 rfl (by decide) ?_;refine ab [2] (v:=.int .u8 116) (af 0 rfl) rfl ?_;refine ae [2] rfl ?_;refine eE 25 rfl (by decide) ?_;refine bG rfl (aq ⟨rfl,⟨rfl,rfl,an⟩,rfl⟩)
  rintro e E H ⟨rfl,hE,rfl⟩;show W _ _ _ E _
  suffices hW:W ⟨w0,[],⟨62,[]⟩⟩ _ _ [(3,.pointer (some ⟨p3,0,none⟩)),(2,.pointer (some ⟨p2,0,none⟩))] [blk p3 5 [.int .u8 sg],blk p2 33 (bI N A c),.seg b o (arcs N.arcs)] from λ a w hA hH=>hW a w (hA.ents _ hE) hH
  clear hE E
  refine lL (aa ?_);refine ah [] rfl ?_;refine ab [] (v:=.slice A N.arcs.length c) (af 1 rfl) rfl ?_;refine ah [] rfl ?_;refine cX (n:=N.arcs.length) (c:=N.arcs.length) rfl rfl rfl rfl rfl rfl (by omega) (by omega) (by omega) (λ _=>rfl) λ gf=>?_;rw[show made [Value.int .i64 0] (N.arcs.length*1)=ax (List.replicate N.arcs.length 0) by rw[dh,G8];simp[ax]];refine bo rfl rfl rfl (λ _=>rfl) λ p8=>?_;refine aA 0 rfl [] rfl ?_;refine ai ?_;refine lL (aa ?_);refine bo rfl rfl rfl (λ _=>rfl) λ p9=>?_;refine ai ?_;refine AV ?_;refine lL (aa ?_);refine ab [] (v:=bp N A c) (af 4 rfl) rfl ?_;refine ap [] (x5 N hR A c b o hA) rfl (by kernel_rfl) ⟨⟨5,_,by simp,rfl,ak _ _ _,av⟩,an⟩ (λ _=>rfl) ?_;rintro v H' ⟨rfl,rfl⟩;refine⟨rfl,?_⟩;rw[hst];refine ap [] (yi (cG nr 0)) rfl (by kernel_rfl) an (λ _=>rfl) ?_;rintro v H' ⟨pc,rfl,rfl⟩;refine⟨rfl,?_⟩;refine em 103 4 ?_
  refine bY (K:=blk pc 2 [.int .i64 (cG nr 0)]::[blk p8 45 [.slice (some ⟨gf,0,none⟩) (List.replicate N.arcs.length (0:Int)).length N.arcs.length],.own (.slice (some ⟨gf,0,none⟩) (List.replicate N.arcs.length (0:Int)).length N.arcs.length) 2 1 (List.replicate N.arcs.length (0:Int)).length (ax (List.replicate N.arcs.length 0)),
   blk p9 60 [.slice none ([]:List lH).length 0],.own (.slice none ([]:List lH).length 0) 103 4 ([]:List lH).length (kS []),blk p2 33 (bI N A c),blk p3 5 [.int .u8 sg],.seg b o (arcs N.arcs)]) (by
    rw[GU];exact aH.picks [1,3,4,2,0,6,5,7] (by decide) rfl) ?_
  refine ai ?_;refine xB ?_
  refine zY (p:=pc) (ty:=2) (n0:=cG nr 0) (nr:=nr) (x:=Bo nr) (gf:=86) (lb:=[.pointer (some ⟨pc,0,none⟩)]) (σ:=SM)
   (λ s=>[blk p8 45 [.slice s.Af s.f.length s.cf],.own (.slice s.Af s.f.length s.cf) 2 1 s.f.length (ax s.f),blk p9 60 [.slice s.At s.ts.length s.ct],.own (.slice s.At s.ts.length s.ct) 103 4 s.ts.length (kS s.ts),blk p2 33 (bI N A c),blk p3 5 [.int .u8 sg],.seg b o (arcs N.arcs)])
   (λ k s=>Sc N nr k s.f s.ts) ⟨_,some ⟨gf,0,none⟩,N.arcs.length,[],none,0⟩ rfl (by kernel_rfl) (su pc nr (by omega)) (λ _ _=>rfl) rfl .nil ?_ ?_
  ·rintro r D k ⟨f,Af,cf,ts,At,ct⟩ y rdy bsy hk hS;simp only at hS ⊢;refine f6 rfl ?_;refine ae [] rfl ⟨rfl,?_⟩;obtain⟨_,hf,htl,_⟩:=hS.all hR;have hfl:=hf.len;have hpos:=lD hk;have hle:=Bj (nr:=nr) (k:=k) (by omega);refine uS (vK (f6 rfl ?_));refine eu (aW 4 rfl) fun ⟨_,_,hAf,hlf⟩=>?_;obtain⟨gf2,hAf⟩:=bL hAf hlf;refine ab [] (v:=bp N A c) (af 7 rfl) rfl ?_;refine ab [] (v:=.slice Af f.length cf) (af 3 rfl) rfl ?_;refine ah [] rfl ?_;refine ab [] (v:=.int .u8 sg) (af 8 rfl) rfl ?_;refine ap [] (A8 N hN hR A c b o hA f hf Af cf gf2 0 (fun h=>hAf (by simpa [ax] using h)) (cG nr k) hpos (by unfold dn;omega) sg hsg) rfl (by kernel_rfl) ⟨⟨9,_,by simp,rfl,ak _ _ _,av⟩,⟨4,_,by simp,rfl,aE hAf,aM hAf⟩,trivial⟩ (fun _=>rfl) ?_;rintro v H' ⟨f1,ph,wk,st,A1,c1,hdn,_,_,_,_,_,rfl,rfl⟩;obtain⟨hf1,_,_,_⟩:=hdn.keeps hR hpos hf;have hf1l:=hf1.len;refine⟨rfl,?_⟩;refine ah [] rfl ?_;refine bo rfl rfl rfl (fun _=>rfl) fun p11=>?_;refine aA 0 rfl [] rfl ?_;refine ae [] rfl ?_;refine vK (f6 rfl ?_);refine eu (aW 1 rfl) fun ⟨_,_,hA1,hl1⟩=>?_;obtain⟨g1,hA1⟩:=bL hA1 hl1;refine ah [] rfl ?_;refine ab [] (v:=.slice A1 f1.length c1) (af 0 rfl) rfl ?_;refine aA 5 rfl [] rfl ?_;refine ai ?_;refine vK (f6 rfl ?_);refine ab [] (v:=bp N A c) (af 9 rfl) rfl ?_;refine ab [] (v:=.slice A1 f1.length c1) (af 5 rfl) rfl ?_;refine ap [] (gq N hN hR A c b o hA f1 A1 c1 g1 0 (fun h=>hA1 (by simpa [ax] using h)) (aK.inB hR hf1.toRanged) (by omega)) rfl (by kernel_rfl) ⟨⟨11,_,by simp,rfl,ak _ _ _,av⟩,⟨1,_,by simp,rfl,aE hA1,aM hA1⟩,trivial⟩ (fun _=>rfl) ?_;rintro v H' ⟨⟨rfl,_⟩|⟨_,h⟩,rfl⟩
   case inr=>exact absurd hf1 h
   refine⟨rfl,?_⟩;refine ae [] rfl ?_;refine f6 rfl ?_;refine ab [] (v:=.slice At ts.length ct) (af 7 rfl) rfl ?_;refine ah [] rfl ?_;refine ab [] (v:=.int .i64 ph) (af 0 rfl) rfl ?_;refine ah [] rfl ?_;refine ab [] (v:=.int .i64 wk) (af 0 rfl) rfl ?_;refine ah [] rfl ?_;refine ab [] (bz rfl rfl rfl rfl rfl rfl) rfl ?_;refine bF rfl rfl rfl rfl rfl rfl rfl (λ _=>rfl) λ g5=>?_;refine bv (n:=ts.length) (m:=1) (off:=0) (news:=kS [⟨cG nr k,ph,wk,cS (N.arcs.zip f1) N.snk⟩]) 9 0 rfl rfl rfl rfl rfl rfl (by decide) rfl rfl (aF g5 _ _ (0,0)) (λ _=>rfl) rfl rfl (by omega) (by omega) (λ _ _=>rfl) λ A2 c2=>?_;refine aA 8 rfl [] rfl ?_;refine ai ⟨⟨f1,A1,c1,ts++[⟨cG nr k,ph,wk,cS (N.arcs.zip f1) N.snk⟩],A2,c2⟩,.step hS hk hdn,?_⟩;simp only[zC,Gx,Gz,GQ];exact aH.picks [3,4,5,6,2,8,9,10,11,12] (by decide) rfl
  ·rintro D a w ⟨f,Af,cf,ts,At,ct⟩ y hS hA hH;simp only at hS hH;show Code.wp Tryz.prog _ _ a w;refine D7 (fn:=Tryz.f23) (E:=[(9,.pointer (some ⟨p9,0,none⟩)),(8,.pointer (some ⟨p8,0,none⟩))]) (H:=[.obj D pu,blk pc 2 [.int .i64 y],blk p8 45 [.slice Af f.length cf],.own (.slice Af f.length cf) 2 1 f.length (ax f),blk p9 60 [.slice At ts.length ct],.own (.slice At ts.length ct) 103 4 ts.length (kS ts),blk p2 33 (bI N A c),blk p3 5 [.int .u8 sg],.seg b o (arcs N.arcs)]) (D:=D) ?_ (hA.ents _ ⟨rfl,rfl,an⟩) hH;refine ad ?_;refine bu 5 (cZ [0,1,2,3,4]) [2,4] (by kernel_rfl) (by decide) rfl ?_;refine aj [] rfl (af (v:=.slice Af f.length cf) 0 rfl) rfl ?_;refine aj [] rfl (af (v:=.slice At ts.length ct) 1 rfl) rfl ?_;refine dw [] rfl ?_;refine ai ?_;refine ay ?_;refine⟨.inr rfl,[.own (.slice Af f.length cf) 2 1 f.length (ax f),.own (.slice At ts.length ct) 103 4 ts.length (kS ts)],[0,3,5],by decide,rfl,_,rfl,f,ts,Af,cf,At,ct,hS,rfl,rfl⟩
end Go.Proofs.YtmcnpaelaieniaaGreatDoor
