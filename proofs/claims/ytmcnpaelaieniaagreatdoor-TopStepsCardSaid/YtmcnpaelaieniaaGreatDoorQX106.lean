import Derived.Test.YtmcnpaelaieniaaGreatDoorQX93
import Derived.Test.YtmcnpaelaieniaaGreatDoorOfR
import Derived.Test.YtmcnpaelaieniaaGreatDoorQF
import Derived.Test.YtmcnpaelaieniaaGreatDoorQX82
import Derived.Test.YtmcnpaelaieniaaGreatDoorQX100
import Derived.Test.YtmcnpaelaieniaaGreatDoorQX67
import Derived.Test.YtmcnpaelaieniaaGreatDoorQX84
import Derived.Test.YtmcnpaelaieniaaGreatDoorQB
import Derived.Test.YtmcnpaelaieniaaGreatDoorQC
import Derived.Test.YtmcnpaelaieniaaGreatDoorQX104
import Derived.Test.YtmcnpaelaieniaaGreatDoorQX88
/- A part of the proof; see NOTES.md. -/
set_option linter.unusedVariables false
set_option linter.unusedSimpArgs false
namespace Go.Proofs.YtmcnpaelaieniaaGreatDoor
open Go.RowKit
section
variable {g:Gr} {l sl sr:LI}
end
section
variable {g:Gr} {nl nr:Nat} {f:LI}
end
structure Gj (g:Gr) (l sl sr:LI):Prop where
 isl:fD g.left sl
 isr:fD g.right sr
 inl:∀ v:Nat,1<=v->(v:Int)<=g.left->((v:Int)∈sl↔¬ Cm g l v)
 inr:∀ w:Nat,1<=w->(w:Int)<=g.right->((w:Int)∈sr↔Gc g l w)
def fZ(N:aO):Int:=2+(eU N.nodes:Nat)
def iO(N:aO):Int:=20000*(N.nodes+N.arcs.length)*fZ N*fZ N
theorem rh{N:aO}(h1:2<=N.nodes)(h2:N.nodes<=500):3<=fZ N/\fZ N<=11:=by
 obtain⟨g1,g2,_⟩:=AP (n:=N.nodes) (by omega) (by omega);unfold fZ
 have hne:eU N.nodes≠0:=by
  intro h;rw[h] at g1;simp at g1;omega
 have g3:=g2.resolve_left hne
 have:eU N.nodes-1<9:=by
  refine Nat.lt_of_not_le λ hc=>?_;have:2^9<=2^(eU N.nodes-1):=Nat.pow_le_pow_right (by decide) hc;omega
 omega
theorem mx{N:aO}(h1:2<=N.nodes)(h2:N.nodes<=500)(h3:N.arcs.length<=2001):0<20000*(N.nodes+N.arcs.length)*fZ N/\20000*(N.nodes+N.arcs.length)*fZ N<=600000000/\0<iO N/\iO N<=6600000000:=by
 obtain⟨k1,k2⟩:=rh h1 h2;have m1:0<20000*(N.nodes+N.arcs.length)*fZ N:=Int.mul_pos (by omega) (by omega);have m2:20000*(N.nodes+N.arcs.length)*fZ N<=50020000*11:=Int.mul_le_mul (by omega) k2 (by omega) (by omega);have m3:0<iO N:=Int.mul_pos m1 (by omega);have m4:iO N<=600000000*11:=Int.mul_le_mul (by omega) k2 (by omega) (by omega);omega
theorem xh(N:aO)(h1:2<=N.nodes)(h2:N.nodes<=500)(h3:N.arcs.length<=2001)(A:OA)(c:Nat):Fn 18 [bx N A c] [] [] λ v H'=>v=.int .i64 (iO N)/\H'=[]:=by
 obtain⟨k1,k2⟩:=rh h1 h2;obtain⟨m1,m2,m3,m4⟩:=mx h1 h2 h3;refine aH Tryz.func18 rfl rfl λ w0=>?_;refine ad (aa ?_);refine bz (cs:=bJ N A c) rfl rfl rfl (λ _=>rfl) λ p=>?_;refine ae [] rfl ?_;refine ad (aa (ah [] rfl ?_));refine ab [] (af 0 rfl) rfl ?_;refine ao [] (EW N.nodes (by unfold bU;omega)) rfl (by kernel_rfl) an (λ _=>rfl) ?_;rintro v H' ⟨rfl,rfl⟩;refine⟨rfl,?_⟩;refine ah [] rfl ?_;refine aI 3 (v':=.int .i64 (fZ N)) rfl (Gz (Value.int .i64) (b5 (n:=2+(eU N.nodes:Nat)) (by unfold fZ at k2;omega))) ?_;refine ai ?_;refine ad (aa (ah [] rfl ?_));refine ab [] (af 0 rfl) rfl ?_;refine ah [] rfl ?_;refine ab [] (af 0 rfl) rfl ?_;refine ae [] rfl ?_;refine aA [] (by decide) rfl (ax ⟨_,rfl,Gz (Value.int .i64) ?_,rfl⟩);rw[b5 (n:=N.nodes+N.arcs.length) (by omega),b5 (n:=20000*(N.nodes+N.arcs.length)) (by omega),b5 (n:=20000*(N.nodes+N.arcs.length)*fZ N) (by omega),b5 (by unfold iO at m3 m4;omega)];rfl
theorem Bv{a b:Int}(ha:bU a)(hb:bU b)(h:bU (a*b)):Fn 37 [.int .i64 a,.int .i64 b] [] [] λ v H'=>v=.int .i64 (a*b)/\H'=[]:=by
 have T:=EY ha hb;rw[tu h] at T;refine aH Tryz.func37 rfl rfl λ w0=>?_;refine ad (aa (ae [] rfl ?_));refine ad (aa (ah [] rfl ?_));refine ao [] (T) rfl (by kernel_rfl) an (λ _=>rfl) ?_;rintro v H' ⟨rfl,rfl⟩;refine⟨rfl,?_⟩;refine ae [] rfl ?_;refine ad (ad (aa (ae [] rfl ?_)));refine aC rfl (λ hx=>absurd rfl hx) (λ _=>aq ?_);refine ad (aa (ae [] rfl ?_));exact ax ⟨_,rfl,rfl,rfl⟩
def jf(N:aO):Int:=(N.nodes-1)*iO N
theorem ru{N:aO}(h1:2<=N.nodes)(h2:N.nodes<=500)(h3:N.arcs.length<=2001):0<jf N/\jf N<=3300000000000:=by
 obtain⟨m1,m2,m3,m4⟩:=mx h1 h2 h3;have a1:0<jf N:=Int.mul_pos (by omega) m3;have a2:jf N<=500*6600000000:=Int.mul_le_mul (by omega) m4 (by omega) (by omega);omega
theorem tl(N:aO)(hN:N.Fits)(A:OA)(c b o:Nat)(hA:N.arcs≠[]->A=some ⟨b,o,none⟩):Fn 15 [bx N A c] [] [.seg b o (arcs N.arcs)] λ v H'=>v=qI (if er N=0 then (jf N,0) else (0,er N))/\H'=[]:=by
 refine aH Tryz.func15 rfl rfl λ w0=>?_;refine ad (aa ?_);refine bz (cs:=bJ N A c) rfl rfl rfl (λ _=>rfl) λ p=>?_;refine ae [] rfl ?_;refine ad (ad (aa ?_));refine ab [] (v:=bx N A c) (af 0 rfl) rfl ?_;refine ao [] (iz N hN A c b o hA) rfl (by kernel_rfl) ⟨⟨1,_,by simp,rfl,ak _ _ _,au⟩,an⟩ (λ _=>rfl) ?_;rintro v H' ⟨rfl,rfl⟩;refine⟨rfl,?_⟩;refine ae [] rfl ?_;refine ad (aa (ae [] rfl ?_));refine aC rfl (λ h=>?_) (λ h=>aq ?_)
 ·rw[if_neg h];refine ad (aa (ae [] rfl ?_));exact aA [] (by decide) rfl (ax ⟨_,rfl,rfl,rfl⟩)
 have hz:er N=0:=GQ.1 h;have hR:=ot hz;have h1:=hR.nodes;have h3:=hR.len;rw[if_pos hz];obtain⟨m1,m2,m3,m4⟩:=mx h1.1 h1.2 (by omega);obtain⟨n1,n2⟩:=ru h1.1 h1.2 (by omega);refine ad ?_;refine bq 8 (cY [0,1,2,3]++[(4,false),(5,false)]++cY [6,7]) [0] (by kernel_rfl) (by decide) rfl ?_;refine az [] rfl ?_;refine aj [] rfl (af 0 rfl) rfl ?_;refine az [] rfl ?_;refine dr 12 (v':=.int .i64 (N.nodes-1)) rfl (Gz (Value.int .i64) (b5 (by omega))) ?_;refine aj [] rfl (v:=bx N A c) (af 0 rfl) rfl ?_;refine aY rfl ?_;refine ao [] (xh N h1.1 h1.2 (by omega) A c) rfl (by kernel_rfl) an (λ _=>rfl) ?_;rintro v H' ⟨rfl,rfl⟩;refine⟨rfl,ai ⟨⟨[0],by decide,rfl⟩,?_⟩⟩;refine aY rfl ?_;refine ao [] (Bv (a:=N.nodes-1) (b:=iO N) (by unfold bU;omega) (by unfold bU;omega) (by unfold jf at n1 n2;unfold bU;omega)) rfl (by kernel_rfl) an (λ _=>rfl) ?_;rintro v H' ⟨rfl,rfl⟩;refine⟨rfl,ai ⟨⟨[0],by decide,rfl⟩,?_⟩⟩;refine dy [] rfl ?_;refine ai ?_;exact aA [] (by decide) rfl (ax ⟨_,rfl,rfl,rfl⟩)
def EX(v p k s b:Int):Value:=.agg #[.int .i64 v,.int .i64 p,.int .i64 k,.int .i64 s,.int .i64 b]
def Av(n:Nat):Nat:=dE n*(n+1)+(db (n+1)+5*(n+1)+1)+(2*db (n+1)+11*(n+1)+1)*(n+1)+(n+1)
theorem AO:∀ n,n<97->2<=n->dj n+3<=20000*((2+eU n)*(2+eU n))/\Av n<=20000*n*((2+eU n)*(2+eU n)):=by decide+kernel
theorem zt{N:aO}(hR:N.Right)(h:N.nodes<=96):(ez N.nodes.toNat N.arcs.length:Int)<=iO N:=by
 have hnn:=hR.nodes;obtain⟨n,hn⟩:∃ n:Nat,N.nodes=n:=⟨N.nodes.toNat,by omega⟩;obtain⟨h1,h2⟩:=AO n (by omega) (by omega)
 have e:ez n N.arcs.length<=20000*(n+N.arcs.length)*(2+eU n)*(2+eU n):=by
  have h3:(dj n+3)*N.arcs.length<=20000*((2+eU n)*(2+eU n))*N.arcs.length:=HB _ h1;have h4:ez n N.arcs.length=(dj n+3)*N.arcs.length+Av n:=by unfold ez Av;omega
  rw[h4];refine HK (Nat.add_le_add h3 h2) (Nat.le_of_eq ?_)
  grind
 unfold iO fZ;rw[hn,G1];have e2:((ez n N.arcs.length:Nat):Int)<=((20000*(n+N.arcs.length)*(2+eU n)*(2+eU n):Nat):Int):=Int.ofNat_le.2 e;rw[I9,I9,I9,Ii,Ii] at e2;exact e2
theorem DZ(N:aO)(hF:N.Fits)(hR:N.Right)(A:OA)(c b o:Nat)(hA:N.arcs≠[]->A=some ⟨b,o,none⟩):Fn 14 [bx N A c] [] [.seg b o (arcs N.arcs)] λ v H'=>∃ (f:LI) (p k s:Nat),Dn N 1 (List.replicate N.arcs.length 0) p k f/\(p:Int)+1<=N.nodes/\2*N.arcs.length*p<=s/\s<=ez N.nodes.toNat N.arcs.length*p/\
 v=.tuple #[EX (da (N.arcs.zip f) N.snk) p k s (jf N),.int .i64 0]/\H'=[]:=by
 have hl2:=hR.len;refine iB Tryz.func14 rfl rfl λ w0=>?_;refine ad (aa ?_);refine bz (cs:=bJ N A c) rfl rfl rfl (λ _=>rfl) λ p1=>?_;refine bu rfl rfl rfl (λ _=>rfl) λ p2=>?_;refine ae [] rfl ?_;refine ad (aa ?_);refine ab [] (v:=bx N A c) (af 1 rfl) rfl ?_;refine ao [] (tl N hF A c b o hA) rfl (by kernel_rfl) ⟨⟨2,_,by simp,rfl,ak _ _ _,au⟩,an⟩ (λ _=>rfl) ?_;rintro v H' ⟨rfl,rfl⟩;refine⟨rfl,?_⟩;rw[if_pos hR.check];refine ae [] rfl ?_;refine ad (ad (aa (ae [] rfl ?_)));refine aC rfl (λ h=>absurd rfl h) (λ _=>aq ?_);refine ad (aa ?_);refine ab [] (v:=bx N A c) (af 1 rfl) rfl ?_;refine ao [] (xI N hF hR A c b o hA 116 (.inr rfl)) rfl (by kernel_rfl) ⟨⟨2,_,by simp,rfl,ak _ _ _,au⟩,an⟩ (λ _=>rfl) ?_;rintro v H' ⟨f,p,k,s,Aa,ca,hd,_,hp,_,hs1,hs2,rfl,rfl⟩;obtain⟨hf,_⟩:=hd.keeps hR (by decide) (fG N hR);have hfl:=hf.len;refine⟨rfl,?_⟩;refine ah [] rfl ?_;refine bu rfl rfl rfl (λ _=>rfl) λ p6=>?_;refine aB 0 rfl [] rfl ?_;refine ae [] rfl ?_;refine bv (a8 1 rfl) λ ⟨_,_,hAa,hla⟩=>?_;obtain⟨ga,hAa⟩:=bQ hAa hla;have hAa':f≠[]->Aa=some ⟨ga,0,none⟩:=λ h=>hAa (by simpa [ay] using h);refine ad (aa ?_);refine ab [] (v:=bx N A c) (af 3 rfl) rfl ?_;refine ah [] rfl ?_;refine ab [] (v:=.slice Aa f.length ca) (af 0 rfl) rfl ?_;refine ao [] (eY N hF hR A c b o hA f Aa ca ga 0 hAa' (aK.inB hR hf.toRanged) (by omega)) rfl (by kernel_rfl) ⟨⟨4,_,by simp,rfl,ak _ _ _,au⟩,⟨1,_,by simp,rfl,aL hAa,a7 hAa⟩,an⟩ (λ _=>rfl) ?_;rintro v H' ⟨⟨rfl,_⟩|⟨_,h⟩,rfl⟩
 case inr=>exact absurd hf h
 refine⟨rfl,?_⟩;refine ae [] rfl ?_;refine ad (aa (ah [] rfl ?_));refine ab [] (v:=.int .i64 p) (af 0 rfl) rfl ?_;refine ah [] rfl ?_;refine ab [] (v:=.int .i64 k) (af 0 rfl) rfl ?_;refine ah [] rfl ?_;refine ab [] (v:=.int .i64 s) (af 0 rfl) rfl ?_;refine ah [] rfl ?_;refine ab [] (be rfl rfl rfl rfl rfl rfl) rfl ?_;refine aB 2 rfl [] rfl ?_;refine ae [] rfl ?_;refine ax ?_;exact⟨[_,_],[],_,⟨⟨p2,2,_,_,rfl,rfl,rfl⟩,rfl,an⟩,by decide,rfl,f,p,k,s,hd,hp,hs1 rfl,hs2,rfl,rfl⟩
end Go.Proofs.YtmcnpaelaieniaaGreatDoor
