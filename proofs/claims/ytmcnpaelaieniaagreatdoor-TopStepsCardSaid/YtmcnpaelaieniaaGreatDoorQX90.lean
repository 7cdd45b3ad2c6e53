import Derived.Test.YtmcnpaelaieniaaGreatDoorQX64
import Derived.Test.YtmcnpaelaieniaaGreatDoorQX106
import Derived.Test.YtmcnpaelaieniaaGreatDoorQX71
import Derived.Test.YtmcnpaelaieniaaGreatDoorQB
import Derived.Test.YtmcnpaelaieniaaGreatDoorQA
import Derived.SizedLaws
import Derived.ChangeSlices
import Derived.Deep.Slices
import Derived.Deep.Fields
import Derived.ChangeSame
import Derived.Lib.SmallJoins
import Derived.ShutString
import Derived.ChangeOld
import Derived.Test.YtmcnpaelaieniaaGreatDoorQX81
import Derived.Test.YtmcnpaelaieniaaGreatDoorRows
import Derived.HandedShaped
import Derived.Handed
import Derived.Lib.LaidU8
import Derived.Lib.LaidTab
import Derived.LaidLaws
import Derived.MakeChecks
/- A part of the proof; see NOTES.md. -/
set_option linter.unusedVariables false
set_option linter.unusedSimpArgs false
namespace Go.Proofs.YtmcnpaelaieniaaGreatDoor
open Go.RowKit
def uV(N0:aO)(i:Nat)(A:OA)(c:Nat):LV_:=[.int .i64 (cC N0 i).nodes,.int .i64 N0.src,.int .i64 N0.snk,.slice A (cC N0 i).arcs.length c]
theorem yn(N0:aO)(i:Nat)(A:OA)(c:Nat):uV N0 i A c=bJ (cC N0 i) A c:=by
 obtain⟨_,h2,h3,_⟩:=ir N0 i;unfold uV bJ;rw[h2,h3]
set_option maxHeartbeats 4000000 in
theorem topSteps_fn(V:cj)(nodes:Int)(hn:bU nodes)(ends:Int)(he:bU ends)(A:OA)(c b o:Nat)(l:List dM)(hA:l≠[]->A=some ⟨b,o,none⟩)(hl:∀ x∈l,bU x.fr/\bU x.to/\bU x.cap)(hs:l.length*24<=140737488351232)(long:Int)(hlong:bU long):
 Fn 4 [.int .i64 nodes,.int .i64 ends,.slice A l.length c,.int .i64 long] [] ([.seg b o (arcs l)]++V.heap) λ v _=>v=.bool true:=by
 refine aH Tryz.func4 rfl rfl λ w0=>?_;refine ad (aa (ae [] rfl ?_));refine ad (aa (ah [] rfl ?_));refine ao [] (zX V) rfl (by kernel_rfl) ⟨⟨1,by simp[cj.heap],rfl⟩,⟨2,by simp[cj.heap],rfl⟩,⟨3,by simp[cj.heap],rfl⟩,an⟩ (λ _=>rfl) ?_;rintro v H' ⟨rfl,rfl⟩;refine⟨rfl,?_⟩;refine ae [] rfl ?_;refine ad (ad (aa (ae [] rfl ?_)));refine bG rfl (aq ?_);refine ad (aa (ah [] rfl ?_));refine ao [] (B6 nodes ends hn he A c b o l hA hl (by omega)) rfl (by kernel_rfl) ⟨⟨0,_,by simp,rfl,ak _ _ _,au⟩,an⟩ (λ _=>rfl) ?_;rintro v H' ⟨N0,A1,c1,hR0,hn9,h24,hcm,rfl,rfl⟩;refine⟨rfl,?_⟩;refine bu rfl rfl rfl (λ _=>rfl) λ p10=>?_;refine aB 0 rfl [] rfl ?_;refine ai ?_;have hpk:=gL (c:=long) (n:=40) (by decide);obtain⟨k,hk⟩:∃ k:Nat,eG long 40=k:=⟨(eG long 40).toNat,by omega⟩;refine ad (aa (ah [] rfl ?_));refine ao [] (fI hlong (by decide)) rfl (by kernel_rfl) an (λ _=>rfl) ?_;rintro v H' ⟨rfl,rfl⟩;refine⟨rfl,?_⟩;rw[hk];refine ae [] rfl ?_;refine ad (ad (aa (ae [] rfl ?_)));refine av ?_
 refine bP (σ:=Nat×OA×Nat) (λ q=>[(12,.int .i64 q.1),(11,.int .i64 k),(10,.pointer (some ⟨p10,0,none⟩))])
  (λ q=>[blk p10 33 (uV N0 q.1 q.2.1 q.2.2),.own (.slice q.2.1 (cC N0 q.1).arcs.length q.2.2) 37 3 (cC N0 q.1).arcs.length (arcs (cC N0 q.1).arcs)]) (λ q=>q.1<=k) (λ q=>k-q.1) (0,A1,c1) [0,1] ⟨rfl,rfl,rfl,an⟩ (by decide) rfl (GI _) ?_
 rintro⟨i,Aa,ca⟩ hi;simp only at hi ⊢;obtain⟨f1,f2,f3,f4,f5⟩:=ir N0 i;have hs0:=hR0.src;have hk0:=hR0.snk;refine ad (ad (aa (ae [] rfl ?_)));refine aC rfl (λ hlt=>aq ?_) (λ hge=>a9 ?_)
 ·have hlt:i<k:=by omega
  refine ad (av ?_);refine ad (aa (ah [] rfl ?_));refine ab [] (v:=.int .i64 (cC N0 i).nodes) (af 0 rfl) rfl ?_;refine ae [] rfl ?_;refine eS [(13,.int .i64 (if i=0 then N0.src else (cC N0 i).nodes)),(12,.int .i64 i),(11,.int .i64 k),(10,.pointer (some ⟨p10,0,none⟩))] [blk p10 33 (uV N0 i Aa ca),.own (.slice Aa (cC N0 i).arcs.length ca) 37 3 (cC N0 i).arcs.length (arcs (cC N0 i).arcs)] ?_ ?_
  ·refine ad (aa (ae [] rfl ?_));by_cases h0:i=0
   ·refine eP 39 rfl (by omega) ?_;refine bh rfl ?_;refine aa (ah [] rfl ?_);refine ab [] (v:=.int .i64 N0.src) (af 0 rfl) rfl ?_;refine ae [] rfl ⟨[0,1],⟨?_,rfl,rfl,rfl,an⟩,by decide,rfl⟩;rw[if_pos h0];rfl
   ·refine eu 39 rfl (by omega) ?_;refine bG rfl (aq ⟨[0,1],⟨?_,rfl,rfl,rfl,an⟩,by decide,rfl⟩);rw[if_neg h0];rfl
  refine ad (aa (ah [] rfl ?_));refine ab [] (v:=.int .i64 (cC N0 i).nodes) (af 0 rfl) rfl ?_;refine ah [] rfl ?_;refine aI 44 (v':=.int .i64 ((cC N0 i).nodes+1)) rfl (Gz (Value.int .i64) (b5 (by omega))) ?_;refine aB 0 rfl [] rfl ?_;refine ai ?_;refine ad (aa (ah [] rfl ?_));refine ab [] (v:=.slice Aa (cC N0 i).arcs.length ca) (af 0 rfl) rfl ?_;refine ah [] rfl ?_;refine ab [] (v:=.int .i64 ((cC N0 i).nodes+1)) (af 0 rfl) rfl ?_;refine ah [] rfl ?_;have m7:(i:Int).tmod 7=((i%7:Nat):Int):=by rw[ID (by omega)];omega
  have m3:(i:Int).tmod 3=((i%3:Nat):Int):=by rw[ID (by omega)];omega
  refine aI 53 (v':=.int .i64 (1+((i%7:Nat):Int))) rfl (Gz (Value.int .i64) (by rw[m7];exact b5 (by omega))) ?_;refine ab [] (be rfl rfl rfl rfl rfl rfl) rfl ?_;refine bC rfl rfl rfl rfl rfl rfl rfl (λ _=>rfl) λ g1=>?_;refine bn (n:=(cC N0 i).arcs.length) (m:=1) (off:=0) (news:=arcs [⟨if i=0 then N0.src else (cC N0 i).nodes,(cC N0 i).nodes+1,1+((i%7:Nat):Int)⟩]) 2 0 rfl rfl rfl rfl rfl rfl (by decide) rfl rfl (aD g1 _ _ (0,0)) (λ _=>rfl) rfl rfl (by omega) (by omega) (λ _ _=>rfl) λ A2 c2=>?_;refine ah [] rfl ?_;refine aB 1 rfl [] rfl ?_;refine ai ?_;refine aa (ah [] rfl ?_);refine ab [] (v:=.slice A2 ((cC N0 i).arcs.length+1) c2) (af 1 rfl) rfl ?_;refine ah [] rfl ?_;refine ab [] (v:=.int .i64 ((cC N0 i).nodes+1)) (af 1 rfl) rfl ?_;refine ah [] rfl ?_;refine ab [] (v:=.int .i64 N0.snk) (af 1 rfl) rfl ?_;refine ah [] rfl ?_;refine aI 65 (v':=.int .i64 ((i%3:Nat):Int)) rfl (Gz (Value.int .i64) m3) ?_;refine ab [] (be rfl rfl rfl rfl rfl rfl) rfl ?_;refine bC rfl rfl rfl rfl rfl rfl rfl (λ _=>rfl) λ g2=>?_;refine bn (n:=(cC N0 i).arcs.length+1) (m:=1) (off:=0) (news:=arcs [⟨(cC N0 i).nodes+1,N0.snk,((i%3:Nat):Int)⟩]) 3 0 rfl rfl rfl rfl rfl rfl (by decide) rfl rfl (aD g2 _ _ (0,0)) (λ _=>rfl) rfl rfl (by omega) (by omega) (λ _ _=>rfl) λ A3 c3=>?_;refine ah [] rfl ?_;refine aB 2 rfl [] rfl ?_;refine ai ?_;refine aa (ae [] rfl ?_)
  have hgl:(cC N0 (i+1)).arcs.length=(cC N0 i).arcs.length+1+1:=by
   show (((cC N0 i).arcs++[_])++[_]).length=_;rw[GE,GE];rfl
  have hga:arcs (cC N0 (i+1)).arcs=(arcs (cC N0 i).arcs++arcs [⟨if i=0 then N0.src else (cC N0 i).nodes,(cC N0 i).nodes+1,1+((i%7:Nat):Int)⟩])++arcs [⟨(cC N0 i).nodes+1,N0.snk,((i%3:Nat):Int)⟩]:=by
   show arcs (((cC N0 i).arcs++[_])++[_])=_;simp only[arcs,List.flatMap_append]
  refine⟨(i+1,A3,c3),[2,3],⟨Gz (λ z=>some (Value.int .i64 z)) (b5 (by omega)),rfl,rfl,an⟩,by decide,?_,by simp only;omega,by simp only;omega⟩;simp only[hgl,hga];unfold uV;rw[hgl];rfl
 obtain rfl:i=k:=by omega
 obtain⟨G,hG⟩:∃ G,G=cC N0 i:=⟨_,rfl⟩;have hR:G.Right:=by rw[hG];exact wg hR0 hn9 h24 hcm (by omega)
 rw[yn,<- hG];rw[<- hG] at f1 f4;have hnn:=hR.nodes;have hl2:=hR.len;have hF:=hR.fits4;refine bv (a8 1 rfl) λ ⟨_,_,hA1,hla⟩=>?_;obtain⟨g1,hA1⟩:=bQ hA1 hla;have hA1':=λ h=>gQ hA1 h;have hcm2:=zt hR (by omega);obtain⟨_,_,m1,m2⟩:=mx hnn.1 hnn.2 (show G.arcs.length<=2001 by omega);obtain⟨bz1,bz2⟩:=ru hnn.1 hnn.2 (show G.arcs.length<=2001 by omega);refine ad (aa ?_);refine ab [] (v:=bx G Aa ca) (af 0 rfl) rfl ?_;refine ao [] (DZ G hF hR Aa ca g1 0 hA1') rfl (by kernel_rfl) ⟨⟨1,_,by simp,rfl,aL hA1,a7 hA1⟩,an⟩ (λ _=>rfl) ?_;rintro v H' ⟨fb,ph,wk,s,hdb,hp,hs1,hs2,rfl,rfl⟩
 have hsm:(s:Int)<=ph*iO G:=by
  have e1:((s:Nat):Int)<=((ez G.nodes.toNat G.arcs.length*ph:Nat):Int):=Int.ofNat_le.2 hs2;rw[I9] at e1;have e2:(ez G.nodes.toNat G.arcs.length:Int)*ph<=iO G*ph:=Ij hcm2 (by omega);rw[Int.mul_comm (iO G)] at e2;omega
 have hpm:(ph:Int)*iO G<=jf G:=Ij (by omega) (by omega);have hpm0:0<=(ph:Int)*iO G:=Int.mul_nonneg (by omega) (by omega)
 have hlow:ph=0\/ph<=s:=by
  rcases Ic ph with h0|h0
  ·exact .inl h0
  ·have h1:=Dx hR hdb h0;have:2*1*ph<=2*G.arcs.length*ph:=HB ph (H8 2 h1);exact .inr (by omega)
 refine⟨rfl,?_⟩;refine ah [] rfl ?_;refine bu rfl rfl rfl (λ _=>rfl) λ b14=>?_;refine aB 0 rfl [] rfl ?_;refine ae [] rfl ?_;refine ad (aa ?_);refine ab [] (v:=bx G Aa ca) (af 1 rfl) rfl ?_;refine ao [] (tl G hF Aa ca g1 0 hA1') rfl (by kernel_rfl) ⟨⟨2,_,by simp,rfl,aL hA1,a7 hA1⟩,an⟩ (λ _=>rfl) ?_;rintro v H' ⟨rfl,rfl⟩;refine⟨rfl,?_⟩;rw[if_pos hR.check];refine ae [] rfl ?_;refine ad (aa ?_);refine ab [] (v:=bx G Aa ca) (af 1 rfl) rfl ?_;refine ao [] (Bx G hF hR Aa ca g1 0 hA1') rfl (by kernel_rfl) ⟨⟨2,_,by simp,rfl,aL hA1,a7 hA1⟩,an⟩ (λ _=>rfl) ?_;rintro v H' ⟨f,ph',wk',Af,cf,hdn,_,rfl,rfl⟩;obtain⟨rfl,rfl,rfl⟩:=hdn.uniq hR (by decide) hdb;obtain⟨hf,_,_,_⟩:=hdn.keeps hR (by decide) (fG G hR);obtain⟨hwk,_,_⟩:=Bq hR hdn;have hfl:=hf.len;have hfin:=aK.inB hR hf.toRanged;refine⟨rfl,?_⟩;refine ah [] rfl ?_;refine bu rfl rfl rfl (λ _=>rfl) λ b18=>?_;refine aB 0 rfl [] rfl ?_;refine ae [] rfl ?_;refine bv (a8 1 rfl) λ ⟨_,_,hAf,hlf⟩=>?_;obtain⟨gf,hAf⟩:=bQ hAf hlf;refine ad (aa ?_);refine ab [] (v:=bx G Aa ca) (af 3 rfl) rfl ?_;refine ah [] rfl ?_;refine ab [] (v:=.slice Af f.length cf) (af 0 rfl) rfl ?_;refine ao [] (eY G hF hR Aa ca g1 0 hA1' f Af cf gf 0 (λ h=>iA hAf h) hfin (by omega)) rfl (by kernel_rfl) ⟨⟨4,_,by simp,rfl,aL hA1,a7 hA1⟩,⟨1,_,by simp,rfl,aL hAf,a7 hAf⟩,an⟩ (λ _=>rfl) ?_;rintro v H' ⟨⟨rfl,_⟩|⟨_,hno⟩,rfl⟩
 case inr=>exact absurd hf hno
 refine⟨rfl,?_⟩;refine ae [] rfl ?_;refine ad (ad (aa (ah [] rfl ?_)));refine bd 94 rfl (λ h=>h rfl) ?_;refine ah [2] rfl ?_;refine bd 98 rfl (λ h=>h rfl) ?_;refine ah [2,6] rfl ?_;refine bd 102 rfl (λ h=>h rfl) ?_;refine ah [2,6,10] rfl ?_;refine bd 105 rfl (λ h=>h rfl) ?_;refine ai ?_;refine bG rfl (aq ?_);refine ad ?_;refine bq 54 (cY [0,1,2,3,4,5,6,7,8,9,10,11,12,13,14,15,16,17,18,19,20,21,22,23,24,25,26,27,28,29,30,31,32,33,34,35,36]++[(37,false)]++cY [38,39,40,41,42,43,44,45,46,47,48,49,50,51,52,53]) [0,2,3] (by kernel_rfl) (by decide) rfl ?_;refine az [] rfl ?_;refine aj [] (v:=.int .i64 (s:Int)) rfl (af 1 rfl) rfl ?_;refine az [] rfl ?_;refine gt 110 rfl (show (s:Int)<=jf G by omega) ?_;refine az [4] rfl ?_;refine aj [4] (v:=.int .i64 (ph':Int)) rfl (af 1 rfl) rfl ?_;refine az [4] rfl ?_;refine aj [4] (v:=.int .i64 G.nodes) rfl (af 2 rfl) rfl ?_;refine az [4] rfl ?_;refine gt 117 rfl (show (ph':Int)<G.nodes by omega) ?_;refine az [4,11] rfl ?_;refine aj [4,11] (v:=.int .i64 (da (G.arcs.zip f) G.snk)) rfl (af 1 rfl) rfl ?_;refine az [4,11] rfl ?_;refine gt 123 rfl rfl ?_;refine az [4,11,17] rfl ?_;refine aj [4,11,17] (v:=.int .i64 (ph':Int)) rfl (af 1 rfl) rfl ?_;refine az [4,11,17] rfl ?_;refine aj [4,11,17] (v:=.int .i64 (ph':Int)) rfl (af 0 rfl) rfl ?_;refine az [4,11,17] rfl ?_;refine gt 130 rfl rfl ?_;refine az [4,11,17,24] rfl ?_;refine aj [4,11,17,24] (v:=.int .i64 (wk':Int)) rfl (af 1 rfl) rfl ?_;refine az [4,11,17,24] rfl ?_;refine aj [4,11,17,24] (v:=.int .i64 (wk':Int)) rfl (af 0 rfl) rfl ?_;refine az [4,11,17,24] rfl ?_;refine gt 137 rfl rfl ?_;refine az [4,11,17,24,31] rfl ?_;refine aj [4,11,17,24,31] (v:=.int .i64 (s:Int)) rfl (af 1 rfl) rfl ?_;refine az [4,11,17,24,31] rfl ?_;refine aj [4,11,17,24,31] (v:=.int .i64 (ph':Int)) rfl (af 1 rfl) rfl ?_;refine aj [4,11,17,24,31] (v:=bx G Aa ca) rfl (af 2 rfl) rfl ?_;refine aY rfl ?_;refine ao [4,11,17,24,31] (xh G hnn.1 hnn.2 (by omega) Aa ca) rfl (by kernel_rfl) an (λ _=>rfl) ?_;rintro v H' ⟨rfl,rfl⟩;refine⟨rfl,ai ⟨⟨[0,2,3],by decide,rfl⟩,?_⟩⟩;refine az [4,11,17,24,31] rfl ?_;refine gt 147 rfl (by rw[b5 (by omega)];exact hsm) ?_;refine az [4,11,17,24,31,41] rfl ?_;refine aj [4,11,17,24,31,41] (v:=.int .i64 (ph':Int)) rfl (af 1 rfl) rfl ?_;refine az [4,11,17,24,31,41] rfl ?_;by_cases h0:ph'=0
 ·refine gt 151 rfl (by omega) ?_;refine az [4,11,17,24,31,41,45] rfl ?_;refine bp (ai ?_);exact aA [] (by decide) rfl (ax ⟨_,rfl,rfl⟩)
 ·refine oQ 151 rfl (by omega) ?_;refine az [4,11,17,24,31,41,45] rfl ?_;refine aj [4,11,17,24,31,41,45] (v:=.int .i64 (s:Int)) rfl (af 1 rfl) rfl ?_;refine az [4,11,17,24,31,41,45] rfl ?_;refine aj [4,11,17,24,31,41,45] (v:=.int .i64 (ph':Int)) rfl (af 1 rfl) rfl ?_;refine az [4,11,17,24,31,41,45] rfl ?_;refine bp (ai ?_);exact aA [] (by decide) rfl (ax ⟨_,rfl,Gz Value.bool (aT (by omega))⟩)
def ja(w:World):Heap->Prop
 |[]=>True
 |.seg b o vs::S=>(aR.seg b o vs).holds w/\ja w S
 |.tab b o::S=>(aR.tab b o).holds w/\ja w S
 |_=>False
theorem ja.spec{w:World}:∀ {S:Heap},ja w S->∀ c∈S,c.holds w/\c.mine=none
 |[],_,c,hc=>by cases hc
 |.seg b o vs::S,h,c,hc=>by
  rcases GL.1 hc with rfl|hc
  ·exact⟨h.1,rfl⟩
  ·exact ja.spec h.2 c hc
 |.tab b o::S,h,c,hc=>by
  rcases GL.1 hc with rfl|hc
  ·exact⟨h.1,rfl⟩
  ·exact ja.spec h.2 c hc
 |.obj ..::_,h,_,_=>h.elim
 |.own ..::_,h,_,_=>h.elim
theorem ja.has{w:World}{S:Heap}(h:ja w S):cS w [] w S:=by
 refine⟨rfl,rfl,rfl,GN _,λ _ _ _=>rfl,λ c hc=>(h.spec c hc).1,λ c hc b hb=>(by rw[(h.spec c hc).2] at hb;simp at hb),?_⟩;rw[HS];intro i j hi hj _;have h1:=(h.spec _ (H9 hi)).2;have h2:=(h.spec _ (H9 hj)).2;exact⟨λ b hb=>by rw[h1] at hb;simp at hb,λ b hb=>by rw[h2] at hb;simp at hb⟩
theorem Fn.row{f:FuncId}{args:LV_}{S:Heap}(h:Fn f args [] S (λ v _=>v=.bool true))(w:World)(hS:ja w S):
 Calls Tryz.prog f args.toArray w λ e w'=>e=.returned (.bool true)/\Below w.heap.size w w':=by
 refine (h w hS.has).mono ?_;rintro e w' ⟨v,H',he,hH,hv⟩;rw[he,hv];exact⟨rfl,⟨hH.os,hH.tape,hH.output,hH.size,λ k hk=>hH.keep k hk (by simp)⟩⟩
theorem inB_of{n:Int}(h:(Lit.int .i64 n).wf=true):bU n:=by
 simp[Lit.wf,IntKind.min,IntKind.max,IntKind.signed,IntKind.bits] at h;exact h
open Go.RowKit Go.ChangeShapes Go.WideShapes Go.Deep Go.Joins
section
variable {H:Type} {enc:TypeId×Value->H} {P:Program} {w:World} {base:Nat} {spare:Nat->Bool} {held:Bool}
theorem sized_of{ts:List TypeId}{ds:List (DataW H)}(h:(DataW.weightsEach P ts ds).all (·<=reachBytes)=true){j:Nat}{t:TypeId}{d:DataW H}(ht:ts[j]?=some t)(hd:ds[j]?=some d):∀ n∈d.weights P t,n<=reachBytes:=λ n hn=>by
 have:=I2.1 h n (DataW.weights_mem_each ht hd n hn)
 simpa using this
theorem wW{a:Addr}{v:Value}(h:w.cell? a=some v):a=⟨a.block,a.off,none⟩:=by
 unfold World.cell? at h;obtain⟨b,o,s⟩:=a
 cases s with
 |none=>rfl
 |some q=>revert h;simp only[Option.isSome];split<;>simp
theorem vK(b o i:Nat):(⟨b,o,none⟩:Addr).add i=⟨b,o+i,none⟩:=by
 unfold Addr.add;split
 ·rename_i h;subst h;rfl
 ·rfl
def BR(P:Program)(e:TypeId)(fs:Array Field):Bool:=oneCellFields P fs&&Nat.beq (P.cellsOf e) 3&&Nat.beq (P.bytesOf e) 24&&Nat.beq fs.size 3&&fs.all λ f=>match P.underlying f.type with
 |some (.int .i64)=>true
 |_=>false
theorem F8{e:TypeId}{fs:Array Field}{n:Nat}{cs:LV_}{y:DataW H×List MemPlace}(he:P.underlying e=some (.struct fs))(hB:BR P e fs=true)(h:DataW.trod enc P w base spare held n e cs=some y):
 ∃ a:dM,cs=[.int .i64 a.fr,.int .i64 a.to,.int .i64 a.cap]/\bU a.fr/\bU a.to/\bU a.cap:=by
 simp only[BR,He] at hB;obtain⟨⟨⟨⟨h1,h2⟩,_⟩,h4⟩,h5⟩:=hB;have h2':=Ho h2;have h4':=Ho h4;obtain⟨xs,n',_,_,hl,hlen,hf⟩:=DataW.trod_struct he h
 have one:∀ j,j<3->∃ k,cs[j]?=some (.int .i64 k)/\bU k:=by
  intro j hj;have hlt:j<fs.size:=by omega
  obtain⟨f,hfj⟩:∃ f,fs[j]?=some f:=⟨fs[j],Jd hlt⟩;obtain⟨o1,o2⟩:=hone_of h1 j f hfj;have hx:=hf j f hfj;rw[o1,o2] at hx
  have hu:P.underlying f.type=some (.int .i64):=by
   have:=Array.all_eq_true.1 h5 j hlt;rw[Jd hlt] at hfj;simp only[GA] at hfj;rw[hfj] at this;split at this
   ·assumption
   ·cases this
  have hxs:∃ x,xs[j]?=some x:=⟨xs[j]'(by omega),Gy (by omega)⟩;obtain⟨x,hxs⟩:=hxs;rw[hxs] at hx;obtain⟨k,hk,_,hw⟩:=DataW.trod_int hu hx;refine⟨k,?_,inB_of hw⟩;have hjc:j<cs.length:=by omega
  rw[Hm hjc] at hk;have hk':[cs[j]]=[Value.int .i64 k]:=hk;rw[Gy hjc,(Il hk').1]
 obtain⟨a,ha,ha'⟩:=one 0 (by omega);obtain⟨b,hb,hb'⟩:=one 1 (by omega);obtain⟨c,hc,hc'⟩:=one 2 (by omega);refine⟨⟨a,b,c⟩,?_,ha',hb',hc'⟩;have hl3:cs.length=3:=by omega
 refine H6 λ i=>?_
 match i with
 |0=>exact ha
 |1=>exact hb
 |2=>exact hc
 |i+3=>rw[Hb (by omega)];rfl
theorem yy{t e:TypeId}{fs:Array Field}{fuel:Nat}{cs:LV_}{x:DataW H×List MemPlace}(ht:P.underlying t=some (.slice e))(he:P.underlying e=some (.struct fs))(hB:BR P e fs=true)
 (h:DataW.trod enc P w base spare held fuel t cs=some x) (hz:∀ n∈x.1.weights P t,n<=reachBytes):
 ∃ (A:OA) (c b o:Nat) (l:List dM),cs=[.slice A l.length c]/\(l≠[]->A=some ⟨b,o,none⟩)/\(aR.seg b o (arcs l)).holds w/\(∀ a∈l,bU a.fr/\bU a.to/\bU a.cap)/\l.length*24<=140737488351232:=by
 have hB':=hB;simp only[BR,He] at hB';obtain⟨⟨⟨⟨_,h2⟩,h3⟩,_⟩,_⟩:=hB';have hC:=Ho h2;have hBy:=Ho h3
 rcases open_slice ht h with ⟨rfl,rfl⟩|⟨a,len,cap,m,n,D,Pl,rfl,_,hl,_,hm,rfl,hi⟩
 ·exact⟨none,0,0,0,[],rfl,λ h=>absurd rfl h,λ i v hv=>by simp[arcs] at hv,λ n hn=>(GV hn).elim,by simp⟩
 ·have hle:len≤m:=by rw[hm];split<;>omega
  rw[hC] at hi
  have each:∀ i,i<len->∃ r:dM,(w.cell? (a.add (i*3))=some (.int .i64 r.fr)/\w.cell? ((a.add (i*3)).add 1)=some (.int .i64 r.to)/\w.cell? ((a.add (i*3)).add 2)=some (.int .i64 r.cap))/\bU r.fr/\bU r.to/\bU r.cap:=by
   intro i hil;obtain⟨cs',hc,ht'⟩:=hi i (by omega);obtain⟨r,rfl,hr⟩:=F8 he hB ht';obtain⟨_,_,hat⟩:=World.cells?_some hc;refine⟨r,⟨?_,?_,?_⟩,hr⟩
   ·have:=hat 0 (by omega);simpa [Addr.add] using this
   ·have:=hat 1 (by omega);simpa using this
   ·have:=hat 2 (by omega);simpa using this
  have:Inhabited dM:=⟨⟨0,0,0⟩⟩;obtain⟨L,hL⟩:=choose_lt (α:=dM) each;refine⟨some a,cap,a.block,a.off,(List.range len).map L,by simp,λ hne=>?_,λ i v hv=>?_,λ r hr=>?_,?_⟩
  ·have hpos:0<len:=by
    rcases Ic len with h0|h0
    ·exact absurd (by rw[h0];rfl) hne
    ·exact h0
   have:=(hL 0 hpos).1.1;exact Gz some (wW (a:=a) (by simpa [Addr.add] using this))
  ·have hil:i<((List.range len).map L).length*3:=by
    have h1:=(GC.1 hv).1
    have h2:(arcs ((List.range len).map L)).length=((List.range len).map L).length*3:=by
     generalize (List.range len).map L=l
     induction l with
     |nil=>rfl
     |cons a l ih=>
      have e:arcs (a::l)=[.int .i64 a.fr,.int .i64 a.to,.int .i64 a.cap]++arcs l:=by simp[arcs]
      rw[e,GE,ih];simp;omega
    omega
   simp only[GH,HH] at hil;have h0:=(hL 0 (by omega)).1.1;have ea:=wW (a:=a) (by simpa [Addr.add] using h0);have hd:i/3<len:=by omega
   have hg:((List.range len).map L)[i/3]?=some (L (i/3)):=by simp[hd]
   obtain⟨g0,g1,g2⟩:=eg hg;obtain⟨⟨c0,c1,c2⟩,_⟩:=hL (i/3) hd;rw[ea,vK,vK] at c1 c2;rw[ea,vK] at c0;have h3:i%3=0\/i%3=1\/i%3=2:=by omega
   rcases h3 with h3|h3|h3
   ·rw[show i=i/3*3 by omega] at hv ⊢;rw[g0] at hv;rw[<- hv,c0]
   ·rw[show i=i/3*3+1 by omega] at hv ⊢;rw[g1] at hv;rw[<- hv,<- Hh,c1]
   ·rw[show i=i/3*3+2 by omega] at hv ⊢;rw[g2] at hv;rw[<- hv,<- Hh,c2]
  ·obtain⟨i,hi',rfl⟩:=G0.1 hr;exact (hL i (by simpa using hi')).2
  ·have hw:=hz (len*24+(m-len)*24) (by
    simp only[DataW.weights,ht,hBy,GH,HH,GL]
    left
    rw[H0])
   have:reachBytes=140737488351232:=by decide
   simp only[GH,HH];omega
theorem opn_recs3{r:Reach}{b0:Nat}{t e:TypeId}{fs:Array Field}{v:Value}{d:DataW H}{p:List MemPlace}(ht:P.underlying t=some (.slice e))(he:P.underlying e=some (.struct fs))(hB:BR P e fs=true)(_:true=true)(hok:Value.okWide P w r b0 t v)
 (h:DataW.Trod enc P w base spare held t v d p) (hz:∀ n∈d.weights P t,n<=reachBytes):
 ∃ (A:OA) (c b o:Nat) (l:List dM),v=.slice A l.length c/\(l≠[]->A=some ⟨b,o,none⟩)/\(aR.seg b o (arcs l)).holds w/\(∀ a∈l,bU a.fr/\bU a.to/\bU a.cap)/\l.length*24<=140737488351232:=by
 obtain⟨a,n,c,rfl⟩:=okWide_slice ht hok;obtain⟨fuel,hf⟩:=h;obtain⟨A,c',b,o,l,h1,h2⟩:=yy ht he hB hf hz;refine⟨A,c',b,o,l,?_,h2⟩
 simpa [Value.cells] using h1
end
open Go.RowKit Go.ChangeShapes
def laidL:List (String×DataW Unit):=[("math/bits.deBruijn32tab",Rows.laid_math_bits_deBruijn32tab),("math/bits.deBruijn64tab",Rows.laid_math_bits_deBruijn64tab),("internal/strconv.uint64pow10",Rows.laid_internal_strconv_uint64pow10),("unicode/utf8.acceptRanges",Rows.laid_unicode_utf8_acceptRanges),("strconv.ErrRange",Rows.laid_strconv_ErrRange),("strconv.ErrSyntax",Rows.laid_strconv_ErrSyntax),("unicode/utf8.first",Rows.laid_unicode_utf8_first)]
theorem rd{W:World}{n:String}{g:Nat}{cs:Array Value}(hg:Tryz.prog.globalNamed n=some g)(h:W.var? Tryz.prog n=some cs):∃ t k,W.heap[g]?=some (.cells cs t k):=by
 unfold World.var? at h;rw[hg] at h;simp only[Option.bind_some] at h;split at h
 ·rename_i c t k he;obtain rfl:=G4 h;exact⟨_,_,he⟩
 ·cases h
theorem libV_of{W:World}(h:laidMetH Tryz.prog laidL W)(hsh:W.ShapedOpen Tryz.prog):∃ V:cj,ja W V.heap:=by
 rw[MakeChecks.laidMetH_plain _ _ _ (by kernel_rfl)] at h;obtain⟨m,hm⟩:=Tryz.laysM146.s1_3 W hsh;have gM:Tryz.prog.globalNamed "internal/bytealg.MaxLen" =some 0:=by kernel_rfl
 have gP:Tryz.prog.globalNamed "internal/strconv.uint64pow10" =some 3:=by kernel_rfl
 have gE:Tryz.prog.globalNamed "strconv.ErrRange" =some 5:=by kernel_rfl
 obtain⟨g1,t1,cs1,f1,p1,hg1,ht1,hv1,hd1⟩:=Lib.laidMet.reads h (n:= "internal/strconv.uint64pow10") (d:=Rows.laid_internal_strconv_uint64pow10) (by simp[laidL]);obtain⟨g2,t2,cs2,f2,p2,hg2,ht2,hv2,hd2⟩:=Lib.laidMet.reads h (n:= "strconv.ErrRange") (d:=Rows.laid_strconv_ErrRange) (by simp[laidL]);obtain rfl:=G4 (gP.symm.trans hg1);obtain rfl:=G4 (gE.symm.trans hg2);have tP:(Tryz.prog.globals[3]?).map (·.type)=some 264:=by kernel_rfl
 have tE:(Tryz.prog.globals[5]?).map (·.type)=some 118:=by kernel_rfl
 obtain rfl:=G4 (tP.symm.trans ht1);obtain rfl:=G4 (tE.symm.trans ht2);have c1:=Lib.cells_of_tab (k:=.u64) (zs:=Lib.pow10Tab) Tryz.underlying264 Tryz.underlying151 (by kernel_rfl) (by kernel_rfl) hd1;obtain⟨f3,u,v,c2,_,_⟩:=iface_of_trod Tryz.underlying118 hd2;obtain⟨tp1,k1,b1⟩:=rd gP hv1;obtain⟨tp2,k2,b2⟩:=rd gE hv2
 have b0:∃ cs t k,W.heap[0]?=some (.cells cs t k)/\cs[0]?=some (.int .i64 m):=by
  have hm':W.cell? ⟨0,0,none⟩=some (.int .i64 m):=hm;unfold World.cell? at hm';simp only[Option.isSome_none,Jh,IY] at hm';split at hm'
  ·rename_i cs t k he;exact⟨_,_,_,he,hm'⟩
  all_goals cases hm'
 obtain⟨cs0,t0,k0,h0,e0⟩:=b0;refine⟨⟨.cells cs0 t0 k0,.cells cs1 tp1 k1,.cells cs2 tp2 k2,m,u,v,⟨_,_,_,rfl,e0⟩,⟨tp1,k1,?_⟩,⟨tp2,k2,?_⟩⟩,⟨h0,b1,b2,an⟩⟩
 ·rw[<- c1]
 ·obtain⟨l2⟩:=cs2;have:l2=[.iface u v]:=c2;rw[this]
section
variable {H:Type} {enc:TypeId×Value->H}
theorem returns_card{a:Assume}{C:Checked}{os:Os}{f:FuncId}{fn:Func}{s:ChangeSpec}{conds:List PathCond}{dT fresh handsOn again:Bool}{X:World->Array Value->Prop}
 (hX:∀ (w w':World) (args:Array Value),w.heap=w'.heap->X w args->X w' args)
 (own:ownKnob C.prog.godebug=none) (started:os.Started) (noInit:C.prog.inits.idxOf? f=none) (hfn:C.prog.funcs[f]?=some fn)
 (witness:∃ (w:World) (tape:Tape) (i:Input),w.os=os/\(w.forCall tape i).Shaped C.prog/\i.vars=[]/\Input.okWide C.prog (w.forCall tape i) .any w.heap.size f i/\
  ((s.pre enc C.prog fn conds dT (w.forCall tape i).memory i.args/\X (w.forCall tape i).memory i.args)/\sizedMet enc C.prog fn (OpenSpec.ofChange s) dT (w.forCall tape i).memory i.args)/\a.holds C.prog (lone (Frame.enter C.prog f i.args .normal) [] (w.forCall tape i)))
 (contract:∀ (W:World) (base:Nat) (args:Array Value) (ds gs:List (DataW H)) (before:List MemPlace),
  (∀ (j:Nat) t v,fn.params[j]?=some t->args[j]?=some v->Value.okWide C.prog W .any base t v)->
  DataW.Whole enc C.prog fn.params.toList s.vars dT W args.toList ds gs before->
  conds.all (PathCond.test C.prog ⟨fn.params.toList,ds,s.plain.varTypes C.prog,gs⟩)=true->
  (DataW.weightsEach C.prog (fn.params.toList++s.plain.varTypes C.prog) (ds++gs)).all (·<=reachBytes)=true->X W args->W.ShapedOpen C.prog->
  a.holds C.prog (lone (Frame.enter C.prog f args .normal) [] W)->
  Calls C.prog f args W λ e W'=>∃ v,e=.returned v/\s.post enc C.prog fn dT fresh handsOn again W args v W'):
 ReturnsInHanded a C os f .any (λ w args=>(s.pre enc C.prog fn conds dT w args/\X w args)/\sizedMet enc C.prog fn (OpenSpec.ofChange s) dT w args) (s.post enc C.prog fn dT fresh handsOn again):=by
 refine returnsInHanded_of_calls own started noInit witness ?_;intro w tape i _ hsh _ hok hpre hholds;obtain⟨_,_,_,fn',hfn',_,_,_,_,hval⟩:=hok;have e:fn'=fn:=G4 (hfn'.symm.trans hfn);subst e;obtain⟨⟨⟨ds,gs,before,hw,hc⟩,hx⟩,hz⟩:=hpre;have hw':=DataW.Whole.of_heap (w':=w.forCall tape i) (by rfl) hw;refine (contract (w.forCall tape i) w.heap.size i.args ds gs before hval hw' hc (hz.weights hw) (hX _ _ _ (by rfl) hx) hsh hholds).mono λ e W' ⟨v,he,hp⟩=>?_;subst he;exact ChangeSpec.post_blind hp
end
end Go.Proofs.YtmcnpaelaieniaaGreatDoor
