import Derived.Test.YtmcnpaelaieniaaGreatDoorQX99
import Derived.Test.YtmcnpaelaieniaaGreatDoorShelf
import Derived.Lib.LaidTab
import Derived.Lib.SmallJoins
import Derived.Lib.AppendIntMem
import Derived.Test.YtmcnpaelaieniaaGreatDoorQB
import Derived.Lib.AppendStr
import Derived.Lib.Builder
import Derived.Shelf.Strings.Builder1
import Derived.Test.YtmcnpaelaieniaaGreatDoorQX67
import Derived.Laws.Pointers
/- A part of the proof; see NOTES.md. -/
set_option linter.unusedVariables false
set_option linter.unusedSimpArgs false
namespace Go.Proofs.YtmcnpaelaieniaaGreatDoor
open Go.RowKit
structure cj where
 oM:Obj
 oP:Obj
 oE:Obj
 m:Int
 tp:Nat
 pe:Value
 hM:∃ cs t k,oM=.cells cs t k/\cs[0]?=some (.int .i64 m)
 hP:∃ t k,oP=.cells (Lib.pow10Tab.map λ z=>Value.int .u64 z).toArray t k
 hE:∃ t k,oE=.cells #[.iface tp pe] t k
def cj.heap(V:cj):Heap:=[.tab 0 V.oM,.tab 3 V.oP,.tab 5 V.oE]
theorem Az{w:World}{b i:Nat}{cs:Array Value}{t:Nat}{k:Nat×Nat}{v:Value}(h:w.heap[b]?=some (.cells cs t k))(hv:cs[i]?=some v):w.cell? ⟨b,i,none⟩=some v:=by
 simp[World.cell?,h,hv]
theorem cj.cellM(V:cj){w:World}(h:w.heap[0]?=some V.oM):w.cell? ⟨0,0,none⟩=some (.int .i64 V.m):=by
 obtain⟨cs,t,k,e,h0⟩:=V.hM;rw[e] at h;exact Az h h0
theorem cj.tabP(V:cj){w:World}(h:w.heap[3]?=some V.oP):Lib.TabIs Tryz.prog w "internal/strconv.uint64pow10" .u64 Lib.pow10Tab:=by
 obtain⟨t,k,e⟩:=V.hP;rw[e] at h;have hg:Tryz.prog.globalNamed "internal/strconv.uint64pow10" =some 3:=by kernel_rfl
 unfold Lib.TabIs World.var?;rw[hg];simp only[Option.bind_some,h]
theorem cj.varE(V:cj){w:World}(h:w.heap[5]?=some V.oE):w.var? Tryz.prog "strconv.ErrRange" =some #[.iface V.tp V.pe]:=by
 obtain⟨t,k,e⟩:=V.hE;rw[e] at h;have hg:Tryz.prog.globalNamed "strconv.ErrRange" =some 5:=by kernel_rfl
 unfold World.var?;rw[hg];simp only[Option.bind_some,h]
def cO(l:List (LU)):LV_:=l.map dK
theorem uZ(l:List (LU)):(cO l).length=l.length:=by simp[cO]
theorem uQ{l:List (LU)}{i:Nat}{x:LU}(h:l[i]?=some x):(cO l)[i]?=some (dK x):=by simp[cO,h]
theorem um(s:ByteArray):dK s.data.toList=.string s:=by unfold dK;rw[Lib.mk_data]
theorem wa(l p:LU):Fn 121 [dK l,dK p] [] [] λ v H'=>v=dK (Lib.trimPrefix l p)/\H'=[]:=
 Fn.of_same (λ w=>Any.strings_TrimPrefix Tryz.lays101 ⟨l.toArray⟩ ⟨p.toArray⟩ w) ⟨rfl,rfl⟩
theorem vf(l p:LU)(hl:l.length<=9223372036854775807):Fn 52 [dK l,dK p] [] [] λ v H'=>v=dK (Lib.trimSuffix l p)/\H'=[]:=
 Fn.of_same (λ w=>Any.strings_TrimSuffix Tryz.lays102 ⟨l.toArray⟩ ⟨p.toArray⟩ w (by rw[cP];exact hl)) ⟨rfl,rfl⟩
theorem CG(l p:LU)(hl:l.length<=9223372036854775807)(hp:p.length<4294967281)(ha:p.all (λ b=>decide (b.toNat<128))=true):Fn 122 [dK l,dK p] [] [] λ v H'=>v=dK (Lib.trimS l p)/\H'=[]:=
 Fn.of_below λ w _=>(Any.strings_Trim_laid Tryz.lays160 (by kernel_rfl) ⟨l.toArray⟩ ⟨p.toArray⟩ w (by rw[cP];exact hl) (by rw[cP];exact hp) (ascii_of_all ha)).mono λ e w' ⟨he,hb⟩=>⟨_,he,hb,rfl,rfl⟩
theorem BU(V:cj)(l:LU)(c:UInt8)(hl:l.length<4294967281):Fn 51 [dK l,dK [c]] [] V.heap λ v H'=>∃ (A:OA) (n:Nat),n=(bY c [] l).length/\v=.slice A n n/\H'=[.own (.slice A n n) 9 1 n (cO (bY c [] l))]:=by
 intro w hw;have hm:=V.cellM (hw.holds (.tab _ V.oM) (by simp[cj.heap]));refine (Any.strings_Split { Tryz.laysM146 with } Tryz.laysM146.i9 ⟨l.toArray⟩ ⟨#[c]⟩ V.m w (by rw[cP];exact hl) hm (GN 1)).mono ?_;rintro e w' ⟨he,hww⟩;have hgo:=qW c _ ⟨l.toArray⟩ rfl;have hle:=Lib.countB_le ⟨#[c]⟩ (GN 1) l.length ⟨l.toArray⟩ (by rw[cP];exact GN _);rw[cP] at hle
 have hlen:(bY c [] l).length=Lib.countB ⟨l.toArray⟩ ⟨#[c]⟩+1:=by
  rw[<- hgo,GH];exact Lib.splitB_all ⟨#[c]⟩ (GN 1) 0 _ ⟨l.toArray⟩ rfl
 have hcs:(Lib.splitB ⟨#[c]⟩ 0 (Lib.countB ⟨l.toArray⟩ ⟨#[c]⟩) ⟨l.toArray⟩).map Value.string=cO (bY c [] l):=by
  rw[<- hgo];simp[cO,um]
 have hH:cS w [] w' [blk w.heap.size 9 (cO (bY c [] l))]:=by
  rw[hww,hcs];exact (hw.mono (K:=[]) (λ c hc=>absurd hc GV) List.Pairwise.nil).alloc _
 refine⟨_,_,he,hH.blkOwn (sz:=1) (n:=(bY c [] l).length) (by rw[uZ];simp) (by rw[hlen];unfold maxLen;omega),some ⟨w.heap.size,0,none⟩,_,hlen.symm,rfl,by rw[hlen]⟩
theorem pY(V:cj)(l:LU)(hl:l.length<4294967281):Fn 28 [dK l] [] V.heap λ v H'=>∃ (A:OA) (n:Nat),n=(aP l).length/\v=.slice A n n/\H'=[.own (.slice A n n) 9 1 n (cO (aP l))]:=by
 refine aH Tryz.func28 rfl rfl λ w0=>?_;refine ad (aa (ae [] rfl ?_));refine ad (ad (aa ?_));refine am (gs:=[999]) rfl ?_;refine ab [] (wT (m:=[]) rfl rfl rfl) rfl ?_;refine ae [] rfl ?_;refine aC rfl (λ h0=>?_) (λ h0=>aq ?_)
 ·refine ad (aa (ae [] rfl ?_));refine cd 9 1 ?_;refine aA [0] (by decide) rfl (ax ⟨_,rfl,none,0,?_,rfl,?_⟩)
  ·rw[h0];rfl
  ·rw[h0];rfl
 have he:aP l=bY 10 [] (Lib.trimSuffix l [10]):=by unfold aP;rw[if_neg h0]
 have hle:(Lib.trimSuffix l [10]).length<=l.length:=by
  unfold Lib.trimSuffix;split
  ·rw[G2];omega
  ·exact GN _
 refine ad (aa ?_);refine am (gs:=[999]) rfl ?_;refine ao [] (vf l [10] (by omega)) rfl (by kernel_rfl) an (λ _=>rfl) ?_;rintro v H' ⟨rfl,rfl⟩;refine⟨rfl,?_⟩;refine ao [] (BU V (Lib.trimSuffix l [10]) 10 (by omega)) rfl (by kernel_rfl) ⟨⟨0,by simp,rfl⟩,⟨1,by simp,rfl⟩,⟨2,by simp,rfl⟩,an⟩ (λ _=>rfl) ?_;rintro v H' ⟨A,n,hn,rfl,rfl⟩;refine⟨rfl,?_⟩;refine ae [] rfl ?_;refine aA [0] (by decide) rfl (ax ⟨_,rfl,A,n,by rw[he];exact hn,rfl,by rw[he]⟩)
theorem pG(V:cj)(n:Int)(hn:bU n):Fn 94 [.int .i64 n] [] V.heap λ v H'=>v=dK (Lib.itoa n)/\H'=[]:=by
 have T:Fn 119 [.int .i64 n,.int .i64 10] [] V.heap λ v H'=>v=dK (Lib.itoa n)/\H'=[]:=by
  intro w hw;have ht:=V.tabP (hw.holds (.tab _ V.oP) (by simp[cj.heap]));refine (Any.strconv_FormatInt_10 Tryz.laysM173 n (by unfold bU at hn;omega) (by unfold bU at hn;omega) w ht).mono ?_;rintro e w' ⟨he,k,os,rfl⟩;refine⟨_,[],he,?_,rfl,rfl⟩;exact kP hw (Lib.below_grow _ w (GN _) k os)
 refine aH Tryz.func94 rfl rfl λ w0=>?_;refine ad (aa (ae [] rfl ?_));refine ad (aa ?_);refine am (gs:=[999]) rfl ?_;refine cL [] T rfl rfl rfl rfl (by kernel_rfl) ⟨⟨0,by simp,rfl⟩,⟨1,by simp,rfl⟩,⟨2,by simp,rfl⟩,an⟩ (λ _=>rfl) ?_;rintro v H' ⟨rfl,rfl⟩;refine⟨rfl,?_⟩;refine ae [] rfl ?_;exact aA [] (by decide) rfl (ax ⟨_,rfl,rfl,rfl⟩)
theorem ym(x:Int)(hx:0<=x/\x<=1114111):Fn 62 [.int .i32 x] [] [] λ v H'=>v=.bool (gW x.toNat)/\H'=[]:=by
 have key:gW x.toNat=dk (x=32\/x=9\/x=13):=by
  by_cases h:x=32\/x=9\/x=13
  ·rw[aT h];rcases h with rfl|rfl|rfl<;>rfl
  ·rw[aZ h];simp[gW];omega
 rw[key];refine aH Tryz.func62 rfl rfl λ w0=>?_;refine ad (aa (ae [] rfl ?_));refine ad (aa ?_);refine am (gs:=[999]) rfl ?_;refine am (gs:=[999]) rfl ?_;refine am (gs:=[999]) rfl ?_;by_cases h1:x=32
 ·refine bj 5 rfl h1 ?_;refine ah [2] rfl ?_;refine ae [2,6] rfl ?_;exact ax ⟨_,rfl,Gz Value.bool (aT (.inl h1)).symm,rfl⟩
 refine bd 5 rfl h1 ?_;refine ah [2] rfl ?_;by_cases h2:x=9
 ·refine bj 9 rfl h2 ?_;refine ae [2,6] rfl ?_;exact ax ⟨_,rfl,Gz Value.bool (aT (.inr (.inl h2))).symm,rfl⟩
 refine bd 9 rfl h2 ?_;refine ae [2,6] rfl ?_;exact ax ⟨_,rfl,Gz Value.bool (em ⟨λ h=>.inr (.inr h),λ h=>by omega⟩),rfl⟩
theorem uA(l:LU)(hl:l.length<=4294967296):Fn 35 [dK l] [] [] λ v H'=>∃ (A:OA) (n:Nat),n=(bw l).length/\v=.slice A n n/\H'=[.own (.slice A n n) 9 1 n (cO (bw l))]:=by
 have T:Fn 61 [dK l,.func (.func 62) #[] #[]] [] [] λ v H'=>∃ (A:OA) (n:Nat),n=(bw l).length/\v=.slice A n n/\H'=[.own (.slice A n n) 9 1 n (cO (bw l))]:=by
  intro w hw
  have hp:PredGrows Tryz.prog 62 #[] gW w:=by
   intro W x hx _;refine (ym (x:Int) ⟨by omega,by omega⟩ W ⟨rfl,rfl,rfl,GN _,λ _ _ _=>rfl,λ c hc=>absurd hc GV,λ c hc=>absurd hc GV,List.Pairwise.nil⟩).mono ?_;rintro e w' ⟨v,H',he,hH,rfl,rfl⟩;rw[G1] at he;exact⟨he,⟨hH.os,hH.tape,hH.output,hH.size,λ k hk=>hH.keep k hk (by simp)⟩⟩
  have heq:=qH ⟨l.toArray⟩;refine (Any.strings_FieldsFunc_grows Tryz.lays229 62 #[] (fP (by kernel_rfl)) gW ⟨l.toArray⟩ w (by rw[cP];exact hl) hp (by kernel_rfl) (by kernel_rfl)).mono ?_;rintro e w' ⟨g,he,hg,hrow,hb⟩
  have hlen:(Lib.goFieldsP gW ⟨l.toArray⟩).length=(bw l).length:=by
   have:=Gz List.length heq
   simpa using this
  have hcs:(Lib.goFieldsP gW ⟨l.toArray⟩).map Value.string=cO (bw l):=by
   have h2:bw l=(Lib.goFieldsP gW ⟨l.toArray⟩).map (·.data.toList):=heq.symm;rw[h2];simp[cO,um]
  refine⟨_,_,he,⟨hb.os,hb.tape,hb.output,hb.size,λ k hk _=>hb.block k hk,λ c hc=>?_,λ c hc b hb'=>?_,In _ _⟩,some ⟨g,0,none⟩,_,hlen,rfl,by rw[<- hcs]⟩
  ·obtain rfl:=GF.1 hc;obtain⟨h1,h2⟩:=hrow;refine⟨h1,h2.imp id ?_⟩;rintro⟨g',cap,cur,k1,k2,k3⟩;exact⟨g',cap,cur,k1,GI _,k3⟩
  ·obtain rfl:=GF.1 hc;simp only[aR.mine,Value.ownBlock,GA] at hb';exact .inl (by omega)
 refine aH Tryz.func35 rfl rfl λ w0=>?_;refine ad (aa (ae [] rfl ?_));refine ad (aa ?_);refine am (gs:=[999]) rfl ?_;refine cL [] T rfl rfl rfl rfl (by kernel_rfl) an (λ _=>rfl) ?_;rintro v H' ⟨A,n,hn,rfl,rfl⟩;refine⟨rfl,?_⟩;refine ae [] rfl ?_;exact aA [0] (by decide) rfl (ax ⟨_,rfl,A,n,hn,rfl,rfl⟩)
theorem qM(V:cj)(l:LU)(hl:l.length<=281474976710656):Fn 96 [dK l] [] V.heap λ v H'=>v=qI (dp l)/\H'=[]:=by
 obtain⟨d,hd⟩:∃ d,d=Lib.trimPrefix l [45]:=⟨_,rfl⟩;obtain⟨n1,n2⟩:=E4 l d hd
 have hdl:d.length<=l.length:=by
  rw[hd];unfold Lib.trimPrefix;split
  ·rw[HG];omega
  ·exact GN _
 have T1:=wa l [45];rw[<- hd] at T1;refine aH Tryz.func96 rfl rfl λ w0=>?_;refine ad (aa (ae [] rfl ?_));refine ad (aa ?_);refine am (gs:=[999]) rfl ?_;refine ao [] (T1) rfl (by kernel_rfl) an (λ _=>rfl) ?_;rintro v H' ⟨rfl,rfl⟩;refine⟨rfl,?_⟩;refine ae [] rfl ?_;refine ad ?_;refine eS [(15,.bool (dk (d=[]\/Lib.trimS d [48,49,50,51,52,53,54,55,56,57]≠[]))),(0,dK l)] V.heap ?_ ?_
 ·skip
  refine aa ?_;refine am (gs:=[999]) rfl ?_;refine ab [] (wT (m:=[]) rfl rfl rfl) rfl ?_;refine am (gs:=[999]) rfl ?_;by_cases h1:d=[]
  ·refine bj 11 rfl h1 ?_;refine ae [2] rfl ?_;exact⟨[0,1,2],⟨Gz some (Gz Value.bool (aT (.inl h1)).symm),rfl,an⟩,by decide,rfl⟩
  refine bd 11 rfl h1 ?_;refine ah [2] rfl ?_;refine ao [2] (CG d [48,49,50,51,52,53,54,55,56,57] (by omega) (by decide) (by decide)) rfl (by kernel_rfl) an (λ _=>rfl) ?_;rintro v H' ⟨rfl,rfl⟩;refine⟨rfl,?_⟩;refine ab [2] (wZ (m:=[]) rfl rfl rfl) rfl ?_;refine ae [2] rfl ?_;exact⟨[0,1,2],⟨Gz some (Gz Value.bool (em ⟨λ h=>.inr h,λ h=>h.resolve_left h1⟩)),rfl,an⟩,by decide,rfl⟩
 refine aC rfl (λ hbad=>?_) (λ hgood=>aq ?_)
 ·refine ad (aa (ae [] rfl ?_));refine aA [] (by decide) rfl (ax ⟨_,rfl,?_,rfl⟩);rw[n1 hbad];rfl
 rcases n2 hgood with ⟨v,h1,h2⟩|⟨h1,h2⟩
 ·have T:Fn 123 [dK l,.int .i64 10,.int .i64 64] [] [] λ u H'=>u=.tuple #[.int .i64 v,.nilIface]/\H'=[]:=by
   intro w hw;refine (Any.strconv_ParseInt_10_at64_ok Tryz.laysC174 ⟨l.toArray⟩ (by rw[cP];omega) v h1 w).mono ?_;rintro e w' ⟨he,hww⟩;refine⟨_,[],he,kP hw ?_,rfl,rfl⟩
   rcases hww with rfl|⟨t,rfl⟩
   ·exact Below.refl _ _
   ·exact Go.Joins.below_bytesWorld _ w _ _ (GN _)
  refine ad (aa ?_);refine am (gs:=[999]) rfl ?_;refine ao [] (T) rfl (by kernel_rfl) an (λ _=>rfl) ?_;rintro v H' ⟨rfl,rfl⟩;refine⟨rfl,?_⟩;refine ae [] rfl ?_;refine ad (ad (aa (ae [] rfl ?_)));refine bG rfl ?_;refine aq (ad (aa (ae [] rfl ?_)));refine aA [] (by decide) rfl (ax ⟨_,rfl,?_,rfl⟩);rw[h2];rfl
 ·have T:Fn 123 [dK l,.int .i64 10,.int .i64 64] [] V.heap λ u H'=>∃ (i:Int) (g:Nat),u=.tuple #[.int .i64 i,.iface 246 (.pointer (some ⟨g,0,none⟩))]/\H'=[]:=by
   intro w hw;have hv:=V.varE (hw.holds (.tab _ V.oE) (by simp[cj.heap]));refine (Any.strconv_ParseInt_10_at64_range_var Tryz.laysC174 ⟨l.toArray⟩ (by rw[cP];exact hl) h1 V.tp V.pe w hv).mono ?_;rintro e w' ⟨g,he,_,_,hb⟩;exact⟨_,[],he,kP hw hb,_,g,rfl,rfl⟩
  refine ad (aa ?_);refine am (gs:=[999]) rfl ?_;refine cL [] T rfl rfl rfl rfl (by kernel_rfl) ⟨⟨0,by simp,rfl⟩,⟨1,by simp,rfl⟩,⟨2,by simp,rfl⟩,an⟩ (λ _=>rfl) ?_;rintro u H' ⟨i,g,rfl,rfl⟩;refine⟨rfl,?_⟩;refine ae [] rfl ?_;refine ad (ad (aa (ae [] rfl ?_)));refine bh rfl ?_;refine ad (aa (ae [] rfl ?_));refine aA [] (by decide) rfl (ax ⟨_,rfl,?_,rfl⟩);rw[h2];rfl
open Lib
theorem CF{w:World}{t u ty e:Nat}{i:TypeInfo}(ht:Tryz.prog.underlying t=some (.slice e))(hu:Tryz.prog.underlying u=some .string)(hi:Tryz.prog.info? e=some i)(hz:i.zero=some (.int .u8 0))(hs:i.size=1)(hb:i.bytes=1)
 (v:Value) (n:Nat) (xs:LV_) (hown:w.ownsRow 0 e 1 v n xs) (s:ByteArray) (h:n+s.size<=140737488355328):
 ∃ v' w',(Builtin.append_ #[t,u] ty #[v,.string s]).run Tryz.prog w=.ok v' w'/\w'.ownsRow 0 e 1 v' (n+s.size) (xs++strCells s)/\w.grownBy w' v.ownBlock/\∀ b,v'.ownBlock=some b->v.ownBlock=some b\/w.heap.size<=b:=by
 obtain⟨v',w',hr,h1,h2,_⟩:=run_append_own_string w 0 t u ty e i ht hu hi hz hs hb v n xs hown s (by unfold maxLen;omega) h (GI _);refine⟨v',w',hr,h1,h2,?_⟩;have hlen:xs.length=n:=by simpa using hown.1
 rcases hown.2 with ⟨rfl,rfl⟩|⟨g,cap,cur,rfl,_,hg,hnc,hcm,hcs,_⟩
 ·obtain rfl:xs=[]:=List.eq_nil_of_length_eq_zero hlen;obtain⟨v2,w2,hr2,k1,_,_⟩:=run_append_own_string w w.heap.size t u ty e i ht hu hi hz hs hb (.slice none 0 0) 0 [] (World.ownsRow_nil w _ e 1) s (by unfold maxLen;omega) h (Nat.le_refl _);rw[hr] at hr2
  injection hr2 with hv _
  subst hv;intro b hbk
  rcases k1.2 with ⟨rfl,_⟩|⟨g,cap,cur,rfl,hge,_⟩
  ·cases hbk
  ·simp only[Value.ownBlock,GA] at hbk;exact .inr (by omega)
 ·by_cases hroom:n+s.size<=cap
  ·have hr3:=run_append_room_string (P:=Tryz.prog) w t u ty e i ht hu hi hs g n cap cur hg s hroom (by simp at hcs;omega);rw[hr] at hr3
   injection hr3 with hv _
   subst hv;exact λ b hbk=>.inl hbk
  ·have hr3:=run_append_grow_string (P:=Tryz.prog) w t u ty e i (.int .u8 0) ht hu hi hz ⟨g,0,none⟩ n cap xs (by rw[hs];simpa using hlen) (hown.cells (g:=g) rfl) s (by omega) (by omega) (by rw[hb];exact growslice_fits (by omega) (by omega));rw[hr] at hr3
   injection hr3 with hv _
   subst hv;intro b hbk;simp only[Value.ownBlock,GA] at hbk;exact .inr (by omega)
section
variable {X:Cx} {Q:dU} {E:Env} {H K:Heap}
theorem zH(m:LU):strCells ⟨m.toArray⟩=byteCells m:=rfl
theorem nq{F:OA->Nat->Env}{ops l:List Oper}{o:Oper}{t u e n c0 s1 s2 sz' by':Nat}{s x:Operand}{A0:OA}{z z':Option Value}{uk:UK}{xs:LV_}{m:LU}(k:Nat)
 (ho:o.op=.call ⟨.builtin .append,#[s,x],#[t,u]⟩) (hs:val E s=some (.slice A0 n c0)) (hx:val E x=some (dK m)) (ht:tab t=some ⟨.slice e,sz',by',z⟩) (hu:tab u=some ⟨.string,s1,s2,z'⟩) (he:tab e=some ⟨uk,1,1,some (.int .u8 0)⟩)
 (hk:H[k]?=some (.own (.slice A0 n c0) e 1 n xs)) (hmax:n+m.length<=140737488355328) (hb:∀ A c,jH X.n ops [] E o (.slice A (n+m.length) c)=some (F A c))
 (h:∀ A c,JL X ops l Q (F A c) (H.set k (.own (.slice A (n+m.length) c) e 1 (n+m.length) (xs++byteCells m)))):JL X ops (o::l) Q E H:=by
 obtain⟨j,hi,hjz,hjs,hjb⟩:=io he
 refine rW (α:=OA×Nat) (f:=λ p=>.slice p.1 (n+m.length) p.2) (F:=λ p=>F p.1 p.2)
  (G:=λ p=>H.set k (.own (.slice p.1 (n+m.length) p.2) e 1 (n+m.length) (xs++byteCells m))) [] (λ p=>hb p.1 p.2) (λ a w hA hH=>?_) (λ p=>h p.1 p.2)
 have hown:w.ownsRow 0 e 1 (.slice A0 n c0) n xs:=hH.holds _ (GB hk);obtain⟨v',w',hr,h1,h2,h3⟩:=CF (w:=w) (ty:=o.type) (dP ht) (iC hu) hi hjz hjs hjb _ n xs hown ⟨m.toArray⟩ (by rw[cP];exact hmax);rw[cP,zH] at h1
 obtain⟨A,c,rfl⟩:∃ A c,v'=.slice A (n+m.length) c:=by
  rcases h1.2 with ⟨rfl,e0⟩|⟨g,cap,cur,rfl,_⟩
  ·exact⟨none,0,by rw[e0]⟩
  ·exact⟨_,_,rfl⟩
 refine⟨(A,c),w',?_,?_⟩
 ·have hr':(Builtin.append_ #[t,u] o.type #[.slice A0 n c0,dK m]).run Tryz.prog w=.ok (.slice A (n+m.length) c) w':=hr;simp[execOp,ho,resolve,invoke,builtin,hA.val hs,hA.val hx,hr']
 ·exact hH.step k hk h2.os h2.tape h2.output h2.size (λ q hq hne=>h2.block q hq (λ x=>hne x.symm)) h1 (λ b' hb'=>h3 b' hb')
theorem Db{E':Env}{ops l:List Oper}{o:Oper}{f:Operand}{args:Array Operand}{ts:Array TypeId}{g:FuncId}{fst cap vs args':LV_}{v:Value}(gs:LN)(hM:X.M=[])
 (T:∀ w,cS X.w0 X.M w H->Calls Tryz.prog g args'.toArray w λ e w'=>e=.returned v/\Below X.w0.heap.size w w') (ho:o.op=.call ⟨.value f,args,ts⟩) (hf:val E f=some (.func (.func g) fst.toArray cap.toArray))
 (ha:vals E args.toList=some vs) (has:fst++vs++cap=args') (hc:eB g=true) (hb:jH X.n ops gs E o v=some E') (h:JL X ops l Q E' []):JL X ops (o::l) Q E H:=by
 intro a w hA hH;obtain⟨hg,hp⟩:=dd hb;unfold wpList;rw[if_pos (ce hA hg)]
 left
 show o.upon _ a _ _ ((execOp a.eval o).run _ w);rw[tj hA ho hf ha hc w,has];refine (T w hH).mono ?_;rintro e w' ⟨rfl,h1⟩;refine h _ _ (hA.putE hp) ⟨h1.os.trans hH.os,h1.tape.trans hH.tape,h1.output.trans hH.output,HK hH.size h1.size,λ k hk hkM=>?_,λ c hc=>absurd hc GV,λ c hc=>absurd hc GV,List.Pairwise.nil⟩;exact (h1.block k hk).trans (hH.keep k hk hkM)
end
def pm(b:Nat)(p:Value)(A:OA)(c:Nat)(m:LU):Heap:=[blk b 116 [p,.slice A m.length c],.own (.slice A m.length c) 5 1 m.length (byteCells m)]
def Es(b:Nat)(p:Value):Prop:=p=.pointer none\/p=.pointer (some ⟨b,0,none⟩)
theorem zu(b:Nat)(p v:Value)(hp:Es b p):Fn 93 [.pointer (some ⟨b,0,none⟩)] (aJ [blk b 116 [p,v]]) ([]++[blk b 116 [p,v]]) λ _ H'=>H'=[blk b 116 [.pointer (some ⟨b,0,none⟩),v]]:=by
 intro w hw;have hb:w.heap[b]?=some (.cells #[p,v] 116 (0,0)):=hw.holds _ (IM ..);have hM:aJ [blk b 116 [p,v]]=[b]:=rfl
 rcases hp with rfl|rfl
 ·refine (Any.Builder_copyCheck_fresh { Tryz.lays156 with } Tryz.Builder_Extra_156.toX72 b w (by simp[World.cell?,hb]) (by simp[World.shape?,hb];rfl) (by simp[World.frozen?,hb])).mono ?_;rintro e w' ⟨he,rfl⟩;refine⟨.tuple #[],_,he,?_,rfl⟩;refine hw.step 0 rfl rfl rfl rfl (by simp[World.setCell]) (λ k _ hk=>Below.heap_setCell _ _ _ _ (λ e=>hk (by rw[e];rfl))) ?_ (λ b' hb'=>.inl hb');show (w.setCell _ _).heap[b]?=_;simp[World.setCell,Array.getElem?_modify,hb]
 ·refine (Any.Builder_copyCheck_used { Tryz.lays156 with } Tryz.Builder_Extra_156.toX72 b w (by simp[World.cell?,hb])).mono ?_;rintro e w' ⟨he,rfl⟩;exact⟨.tuple #[],_,he,hw,rfl⟩
theorem sH(b:Nat)(p:Value)(hp:Es b p)(A:OA)(c:Nat)(m s:LU)(hl:m.length+s.length<=1000000000000):Fn 53 [.pointer (some ⟨b,0,none⟩),dK s] (aJ (pm b p A c m)) ([]++pm b p A c m)
 λ _ H'=>∃ (A':OA) (c':Nat),H'=pm b (.pointer (some ⟨b,0,none⟩)) A' c' (m++s):=by
 refine aH Tryz.func53 rfl rfl λ w0=>?_;refine ad (aa (ae [] rfl ?_));refine ad (aa (ah [] rfl ?_));refine aw (fst:=[]) (cap:=[]) [] (zu b p _ hp) rfl rfl rfl rfl (by kernel_rfl) aF.refl an (λ _=>rfl) ?_;rintro v H' rfl;refine⟨rfl,?_⟩;refine ae [] rfl ?_;refine ad (aa (ah [] rfl ?_));refine ab [] (cB (i:=1) (v:=.slice A m.length c) 0 rfl rfl rfl rfl) rfl ?_;refine ah [] rfl ?_;refine nq (m:=s) 1 rfl rfl rfl rfl rfl rfl rfl (by omega) (λ _ _=>rfl) λ A' c'=>?_;refine ah [] rfl ?_;refine aB 0 rfl [] rfl ?_;refine ae [] rfl ?_;refine ad (aa (ae [] rfl ?_));refine ax ?_;refine⟨_,rfl,A',c',?_⟩;unfold pm;rw[GE,show byteCells (m++s)=byteCells m++byteCells s by simp[byteCells]];rfl
theorem Ez{X:Cx}(hM:X.M=[]){w:World}{H:Heap}(b:Nat)(p:Value)(hp:Es b p)(A:OA)(c:Nat)(m:LU)(hH:cS X.w0 X.M w (pm b p A c m++H)):
 Calls Tryz.prog 55 #[.pointer (some ⟨b,0,none⟩)] w λ e w'=>e=.returned (dK m)/\Below X.w0.heap.size w w':=by
 have hb:w.heap[b]?=some (.cells #[p,.slice A m.length c] 116 (0,0)):=hH.holds (blk b 116 [p,.slice A m.length c]) (by simp[pm]);have ho:w.ownsRow 0 5 1 (.slice A m.length c) m.length (byteCells m):=hH.holds (.own (.slice A m.length c) 5 1 m.length (byteCells m)) (by simp[pm]);have hge:∀ ch∈pm b p A c m,∀ k,ch.mine=some k->X.w0.heap.size<=k:=λ ch hc k hk=>(hH.own ch (List.mem_append_left _ hc) k hk).resolve_right (by rw[hM];exact GV);have hb0:=hge _ (IM ..) b rfl;have hap:=(H4.1 hH.dis).1;have hne:(Value.slice A m.length c).ownBlock≠some b:=(List.pairwise_cons.1 hap).1 _ (IM ..)|>.1 b rfl
 have ho2:w.ownsRow X.w0.heap.size 5 1 (.slice A m.length c) (byteCells m).length (byteCells m):=by
  rw[byteCells_length];refine⟨ho.1,?_⟩
  rcases ho.2 with h|⟨g,cap,cur,e,_,r⟩
  ·exact .inl h
  ·exact .inr ⟨g,cap,cur,e,hge _ (IE _ (IM ..)) g (by rw[show (aR.own (.slice A m.length c) 5 1 m.length (byteCells m)).mine=(Value.slice A m.length c).ownBlock from rfl,e];rfl),r⟩
 have hat:BuilderAt 116 5 X.w0.heap.size b p (byteCells m) w:=⟨hb0,_,hb,ho2,hne⟩
 have his:IsBuilder 116 5 X.w0.heap.size b (byteCells m) w:=by
  rcases hp with rfl|rfl
  ·exact .inl hat
  ·exact .inr hat
 exact Any.Builder_String_any Tryz.lays169 Tryz.Builder_Extra_169 X.w0.heap.size b m w his hH.size
section
variable {X:Cx} {E:Env} {H:Heap}
end
theorem Eb{m:cF}(h:m.a=false)(l:LB):m.lack l=9:=by unfold cF.lack;rw[if_pos h]
theorem zA(m:cF)(ha:m.a=false)(p:Nat)(sg:Int):Fn 22 [.pointer (some ⟨p,0,none⟩),.int .u8 sg] [] [.seg p 0 m.cells] λ v H'=>v=qI (0,9)/\H'=[]:=by
 refine aH Tryz.func22 rfl rfl λ w0=>?_;refine ad (aa (ae [] rfl ?_));refine ad (ad (aa (ah [] rfl ?_)));refine ao (fst:=[]) (cap:=[]) [] (jF m p [] (by decide) none 0 0 0 0 (λ h=>absurd rfl h) rfl) rfl (by kernel_rfl) ⟨⟨0,_,by simp,rfl,ak _ _ _,au⟩,⟨0,_,by simp,rfl,f7,.inl rfl⟩,an⟩ (λ _=>rfl) ?_;rintro v H' ⟨rfl,rfl⟩;refine⟨rfl,?_⟩;rw[Eb ha];refine ae [] rfl ?_;refine ad (aa (ae [] rfl ?_));refine aC rfl (λ _=>?_) (λ h=>absurd (by decide) h);refine ad (aa (ae [] rfl ?_));exact aA [] (by decide) rfl (ax ⟨_,rfl,rfl,rfl⟩)
end Go.Proofs.YtmcnpaelaieniaaGreatDoor
