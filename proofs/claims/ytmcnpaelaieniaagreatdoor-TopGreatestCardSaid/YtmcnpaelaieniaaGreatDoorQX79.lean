import Derived.Test.YtmcnpaelaieniaaGreatDoorQX97
import Derived.Test.YtmcnpaelaieniaaGreatDoorShelf
import Derived.Lib.LaidTab
import Derived.Lib.SmallJoins
import Derived.Lib.AppendIntMem
import Derived.Test.YtmcnpaelaieniaaGreatDoorQB
import Derived.Lib.AppendStr
import Derived.Lib.Builder
import Derived.Shelf.Strings.Builder1
import Derived.Test.YtmcnpaelaieniaaGreatDoorQX66
import Derived.Laws.Pointers
/- A part of the proof; see NOTES.md. -/
set_option linter.unusedVariables false
set_option linter.unusedSimpArgs false
namespace Go.Proofs.YtmcnpaelaieniaaGreatDoor
open Go.RowKit
structure b5 where
 oM:Obj
 oP:Obj
 oE:Obj
 m:Int
 tp:Nat
 pe:Value
 hM:∃ cs t k,oM=.cells cs t k/\cs[0]?=some (.int .i64 m)
 hP:∃ t k,oP=.cells (Lib.pow10Tab.map λ z=>Value.int .u64 z).toArray t k
 hE:∃ t k,oE=.cells #[.iface tp pe] t k
def b5.heap(V:b5):Heap:=[.tab 0 V.oM,.tab 3 V.oP,.tab 5 V.oE]
theorem AU{w:World}{b i:Nat}{cs:Array Value}{t:Nat}{k:Nat×Nat}{v:Value}(h:w.heap[b]?=some (.cells cs t k))(hv:cs[i]?=some v):w.cell? ⟨b,i,none⟩=some v:=by
 simp[World.cell?,h,hv]
theorem b5.cellM(V:b5){w:World}(h:w.heap[0]?=some V.oM):w.cell? ⟨0,0,none⟩=some (.int .i64 V.m):=by
 obtain⟨cs,t,k,e,h0⟩:=V.hM;rw[e] at h;exact AU h h0
theorem b5.tabP(V:b5){w:World}(h:w.heap[3]?=some V.oP):Lib.TabIs Tryz.prog w "internal/strconv.uint64pow10" .u64 Lib.pow10Tab:=by
 obtain⟨t,k,e⟩:=V.hP;rw[e] at h;have hg:Tryz.prog.globalNamed "internal/strconv.uint64pow10" =some 3:=by kernel_rfl
 unfold Lib.TabIs World.var?;rw[hg];simp only[Option.bind_some,h]
theorem b5.varE(V:b5){w:World}(h:w.heap[5]?=some V.oE):w.var? Tryz.prog "strconv.ErrRange" =some #[.iface V.tp V.pe]:=by
 obtain⟨t,k,e⟩:=V.hE;rw[e] at h;have hg:Tryz.prog.globalNamed "strconv.ErrRange" =some 5:=by kernel_rfl
 unfold World.var?;rw[hg];simp only[Option.bind_some,h]
def cK(l:List (LU)):LV_:=l.map dF
theorem tV(l:List (LU)):(cK l).length=l.length:=by simp[cK]
theorem tS{l:List (LU)}{i:Nat}{x:LU}(h:l[i]?=some x):(cK l)[i]?=some (dF x):=by simp[cK,h]
theorem tm(s:ByteArray):dF s.data.toList=.string s:=by unfold dF;rw[Lib.mk_data]
theorem wf(l p:LU):Fn 121 [dF l,dF p] [] [] λ v H'=>v=dF (Lib.trimPrefix l p)/\H'=[]:=
 Fn.of_same (λ w=>Any.strings_TrimPrefix Tryz.lays101 ⟨l.toArray⟩ ⟨p.toArray⟩ w) ⟨rfl,rfl⟩
theorem vF(l p:LU)(hl:l.length<=9223372036854775807):Fn 52 [dF l,dF p] [] [] λ v H'=>v=dF (Lib.trimSuffix l p)/\H'=[]:=
 Fn.of_same (λ w=>Any.strings_TrimSuffix Tryz.lays102 ⟨l.toArray⟩ ⟨p.toArray⟩ w (by rw[cC];exact hl)) ⟨rfl,rfl⟩
theorem Df(l p:LU)(hl:l.length<=9223372036854775807)(hp:p.length<4294967281)(ha:p.all (λ b=>decide (b.toNat<128))=true):Fn 122 [dF l,dF p] [] [] λ v H'=>v=dF (Lib.trimS l p)/\H'=[]:=
 Fn.of_below λ w _=>(Any.strings_Trim_laid Tryz.lays160 (by kernel_rfl) ⟨l.toArray⟩ ⟨p.toArray⟩ w (by rw[cC];exact hl) (by rw[cC];exact hp) (ascii_of_all ha)).mono λ e w' ⟨he,hb⟩=>⟨_,he,hb,rfl,rfl⟩
theorem AG(V:b5)(l:LU)(c:UInt8)(hl:l.length<4294967281):Fn 51 [dF l,dF [c]] [] V.heap λ v H'=>∃ (A:OA) (n:Nat),n=(bZ c [] l).length/\v=.slice A n n/\H'=[.own (.slice A n n) 9 1 n (cK (bZ c [] l))]:=by
 intro w hw;have hm:=V.cellM (hw.holds (.tab _ V.oM) (by simp[b5.heap]));refine (Any.strings_Split { Tryz.laysM146 with } Tryz.laysM146.i9 ⟨l.toArray⟩ ⟨#[c]⟩ V.m w (by rw[cC];exact hl) hm (GF 1)).mono ?_;rintro e w' ⟨he,hww⟩;have hgo:=rv c _ ⟨l.toArray⟩ rfl;have hle:=Lib.countB_le ⟨#[c]⟩ (GF 1) l.length ⟨l.toArray⟩ (by rw[cC];exact GF _);rw[cC] at hle
 have hlen:(bZ c [] l).length=Lib.countB ⟨l.toArray⟩ ⟨#[c]⟩+1:=by
  rw[<- hgo,GA];exact Lib.splitB_all ⟨#[c]⟩ (GF 1) 0 _ ⟨l.toArray⟩ rfl
 have hcs:(Lib.splitB ⟨#[c]⟩ 0 (Lib.countB ⟨l.toArray⟩ ⟨#[c]⟩) ⟨l.toArray⟩).map Value.string=cK (bZ c [] l):=by
  rw[<- hgo];simp[cK,tm]
 have hH:cO w [] w' [blk w.heap.size 9 (cK (bZ c [] l))]:=by
  rw[hww,hcs];exact (hw.mono (K:=[]) (λ c hc=>absurd hc GP) List.Pairwise.nil).alloc _
 refine⟨_,_,he,hH.blkOwn (sz:=1) (n:=(bZ c [] l).length) (by rw[tV];simp) (by rw[hlen];unfold maxLen;omega),some ⟨w.heap.size,0,none⟩,_,hlen.symm,rfl,by rw[hlen]⟩
theorem pK(V:b5)(l:LU)(hl:l.length<4294967281):Fn 28 [dF l] [] V.heap λ v H'=>∃ (A:OA) (n:Nat),n=(aT l).length/\v=.slice A n n/\H'=[.own (.slice A n n) 9 1 n (cK (aT l))]:=by
 refine aJ Tryz.func28 rfl rfl λ w0=>?_;refine ad (aa (ae [] rfl ?_));refine ad (ad (aa ?_));refine am (gs:=[999]) rfl ?_;refine ab [] (xH (m:=[]) rfl rfl rfl) rfl ?_;refine ae [] rfl ?_;refine aC rfl (λ h0=>?_) (λ h0=>aq ?_)
 ·refine ad (aa (ae [] rfl ?_));refine cd 9 1 ?_;refine az [0] (by decide) rfl (ay ⟨_,rfl,none,0,?_,rfl,?_⟩)
  ·rw[h0];rfl
  ·rw[h0];rfl
 have he:aT l=bZ 10 [] (Lib.trimSuffix l [10]):=by unfold aT;rw[if_neg h0]
 have hle:(Lib.trimSuffix l [10]).length<=l.length:=by
  unfold Lib.trimSuffix;split
  ·rw[GV];omega
  ·exact GF _
 refine ad (aa ?_);refine am (gs:=[999]) rfl ?_;refine ap [] (vF l [10] (by omega)) rfl (by kernel_rfl) an (λ _=>rfl) ?_;rintro v H' ⟨rfl,rfl⟩;refine⟨rfl,?_⟩;refine ap [] (AG V (Lib.trimSuffix l [10]) 10 (by omega)) rfl (by kernel_rfl) ⟨⟨0,by simp,rfl⟩,⟨1,by simp,rfl⟩,⟨2,by simp,rfl⟩,an⟩ (λ _=>rfl) ?_;rintro v H' ⟨A,n,hn,rfl,rfl⟩;refine⟨rfl,?_⟩;refine ae [] rfl ?_;refine az [0] (by decide) rfl (ay ⟨_,rfl,A,n,by rw[he];exact hn,rfl,by rw[he]⟩)
theorem pY(V:b5)(n:Int)(hn:dn n):Fn 94 [.int .i64 n] [] V.heap λ v H'=>v=dF (Lib.itoa n)/\H'=[]:=by
 have T:Fn 119 [.int .i64 n,.int .i64 10] [] V.heap λ v H'=>v=dF (Lib.itoa n)/\H'=[]:=by
  intro w hw;have ht:=V.tabP (hw.holds (.tab _ V.oP) (by simp[b5.heap]));refine (Any.strconv_FormatInt_10 Tryz.laysM173 n (by unfold dn at hn;omega) (by unfold dn at hn;omega) w ht).mono ?_;rintro e w' ⟨he,k,os,rfl⟩;refine⟨_,[],he,?_,rfl,rfl⟩;exact lu hw (Lib.below_grow _ w (GF _) k os)
 refine aJ Tryz.func94 rfl rfl λ w0=>?_;refine ad (aa (ae [] rfl ?_));refine ad (aa ?_);refine am (gs:=[999]) rfl ?_;refine b9 [] T rfl rfl rfl rfl (by kernel_rfl) ⟨⟨0,by simp,rfl⟩,⟨1,by simp,rfl⟩,⟨2,by simp,rfl⟩,an⟩ (λ _=>rfl) ?_;rintro v H' ⟨rfl,rfl⟩;refine⟨rfl,?_⟩;refine ae [] rfl ?_;exact az [] (by decide) rfl (ay ⟨_,rfl,rfl,rfl⟩)
theorem zD(x:Int)(hx:0<=x/\x<=1114111):Fn 62 [.int .i32 x] [] [] λ v H'=>v=.bool (gY x.toNat)/\H'=[]:=by
 have key:gY x.toNat=di (x=32\/x=9\/x=13):=by
  by_cases h:x=32\/x=9\/x=13
  ·rw[aR h];rcases h with rfl|rfl|rfl<;>rfl
  ·rw[a6 h];simp[gY];omega
 rw[key];refine aJ Tryz.func62 rfl rfl λ w0=>?_;refine ad (aa (ae [] rfl ?_));refine ad (aa ?_);refine am (gs:=[999]) rfl ?_;refine am (gs:=[999]) rfl ?_;refine am (gs:=[999]) rfl ?_;by_cases h1:x=32
 ·refine bd 5 rfl h1 ?_;refine ah [2] rfl ?_;refine ae [2,6] rfl ?_;exact ay ⟨_,rfl,Gt Value.bool (aR (.inl h1)).symm,rfl⟩
 refine aX 5 rfl h1 ?_;refine ah [2] rfl ?_;by_cases h2:x=9
 ·refine bd 9 rfl h2 ?_;refine ae [2,6] rfl ?_;exact ay ⟨_,rfl,Gt Value.bool (aR (.inr (.inl h2))).symm,rfl⟩
 refine aX 9 rfl h2 ?_;refine ae [2,6] rfl ?_;exact ay ⟨_,rfl,Gt Value.bool (ey ⟨λ h=>.inr (.inr h),λ h=>by omega⟩),rfl⟩
theorem uH(l:LU)(hl:l.length<=4294967296):Fn 35 [dF l] [] [] λ v H'=>∃ (A:OA) (n:Nat),n=(bw l).length/\v=.slice A n n/\H'=[.own (.slice A n n) 9 1 n (cK (bw l))]:=by
 have T:Fn 61 [dF l,.func (.func 62) #[] #[]] [] [] λ v H'=>∃ (A:OA) (n:Nat),n=(bw l).length/\v=.slice A n n/\H'=[.own (.slice A n n) 9 1 n (cK (bw l))]:=by
  intro w hw
  have hp:PredGrows Tryz.prog 62 #[] gY w:=by
   intro W x hx _;refine (zD (x:Int) ⟨by omega,by omega⟩ W ⟨rfl,rfl,rfl,GF _,λ _ _ _=>rfl,λ c hc=>absurd hc GP,λ c hc=>absurd hc GP,List.Pairwise.nil⟩).mono ?_;rintro e w' ⟨v,H',he,hH,rfl,rfl⟩;rw[GW] at he;exact⟨he,⟨hH.os,hH.tape,hH.output,hH.size,λ k hk=>hH.keep k hk (by simp)⟩⟩
  have heq:=qM ⟨l.toArray⟩;refine (Any.strings_FieldsFunc_grows Tryz.lays229 62 #[] (fI (by kernel_rfl)) gY ⟨l.toArray⟩ w (by rw[cC];exact hl) hp (by kernel_rfl) (by kernel_rfl)).mono ?_;rintro e w' ⟨g,he,hg,hrow,hb⟩
  have hlen:(Lib.goFieldsP gY ⟨l.toArray⟩).length=(bw l).length:=by
   have:=Gt List.length heq
   simpa using this
  have hcs:(Lib.goFieldsP gY ⟨l.toArray⟩).map Value.string=cK (bw l):=by
   have h2:bw l=(Lib.goFieldsP gY ⟨l.toArray⟩).map (·.data.toList):=heq.symm;rw[h2];simp[cK,tm]
  refine⟨_,_,he,⟨hb.os,hb.tape,hb.output,hb.size,λ k hk _=>hb.block k hk,λ c hc=>?_,λ c hc b hb'=>?_,If _ _⟩,some ⟨g,0,none⟩,_,hlen,rfl,by rw[<- hcs]⟩
  ·obtain rfl:=Gy.1 hc;obtain⟨h1,h2⟩:=hrow;refine⟨h1,h2.imp id ?_⟩;rintro⟨g',cap,cur,k1,k2,k3⟩;exact⟨g',cap,cur,k1,GB _,k3⟩
  ·obtain rfl:=Gy.1 hc;simp only[aV.mine,Value.ownBlock,Gs] at hb';exact .inl (by omega)
 refine aJ Tryz.func35 rfl rfl λ w0=>?_;refine ad (aa (ae [] rfl ?_));refine ad (aa ?_);refine am (gs:=[999]) rfl ?_;refine b9 [] T rfl rfl rfl rfl (by kernel_rfl) an (λ _=>rfl) ?_;rintro v H' ⟨A,n,hn,rfl,rfl⟩;refine⟨rfl,?_⟩;refine ae [] rfl ?_;exact az [0] (by decide) rfl (ay ⟨_,rfl,A,n,hn,rfl,rfl⟩)
theorem rh(V:b5)(l:LU)(hl:l.length<=281474976710656):Fn 96 [dF l] [] V.heap λ v H'=>v=tj (dj l)/\H'=[]:=by
 obtain⟨d,hd⟩:∃ d,d=Lib.trimPrefix l [45]:=⟨_,rfl⟩;obtain⟨n1,n2⟩:=Ee l d hd
 have hdl:d.length<=l.length:=by
  rw[hd];unfold Lib.trimPrefix;split
  ·rw[Ht];omega
  ·exact GF _
 have T1:=wf l [45];rw[<- hd] at T1;refine aJ Tryz.func96 rfl rfl λ w0=>?_;refine ad (aa (ae [] rfl ?_));refine ad (aa ?_);refine am (gs:=[999]) rfl ?_;refine ap [] (T1) rfl (by kernel_rfl) an (λ _=>rfl) ?_;rintro v H' ⟨rfl,rfl⟩;refine⟨rfl,?_⟩;refine ae [] rfl ?_;refine ad ?_;refine fj [(15,.bool (di (d=[]\/Lib.trimS d [48,49,50,51,52,53,54,55,56,57]≠[]))),(0,dF l)] V.heap ?_ ?_
 ·skip
  refine aa ?_;refine am (gs:=[999]) rfl ?_;refine ab [] (xH (m:=[]) rfl rfl rfl) rfl ?_;refine am (gs:=[999]) rfl ?_;by_cases h1:d=[]
  ·refine bd 11 rfl h1 ?_;refine ae [2] rfl ?_;exact⟨[0,1,2],⟨Gt some (Gt Value.bool (aR (.inl h1)).symm),rfl,an⟩,by decide,rfl⟩
  refine aX 11 rfl h1 ?_;refine ah [2] rfl ?_;refine ap [2] (Df d [48,49,50,51,52,53,54,55,56,57] (by omega) (by decide) (by decide)) rfl (by kernel_rfl) an (λ _=>rfl) ?_;rintro v H' ⟨rfl,rfl⟩;refine⟨rfl,?_⟩;refine ab [2] (w5 (m:=[]) rfl rfl rfl) rfl ?_;refine ae [2] rfl ?_;exact⟨[0,1,2],⟨Gt some (Gt Value.bool (ey ⟨λ h=>.inr h,λ h=>h.resolve_left h1⟩)),rfl,an⟩,by decide,rfl⟩
 refine aC rfl (λ hbad=>?_) (λ hgood=>aq ?_)
 ·refine ad (aa (ae [] rfl ?_));refine az [] (by decide) rfl (ay ⟨_,rfl,?_,rfl⟩);rw[n1 hbad];rfl
 rcases n2 hgood with ⟨v,h1,h2⟩|⟨h1,h2⟩
 ·have T:Fn 123 [dF l,.int .i64 10,.int .i64 64] [] [] λ u H'=>u=.tuple #[.int .i64 v,.nilIface]/\H'=[]:=by
   intro w hw;refine (Any.strconv_ParseInt_10_at64_ok Tryz.laysC174 ⟨l.toArray⟩ (by rw[cC];omega) v h1 w).mono ?_;rintro e w' ⟨he,hww⟩;refine⟨_,[],he,lu hw ?_,rfl,rfl⟩
   rcases hww with rfl|⟨t,rfl⟩
   ·exact Below.refl _ _
   ·exact Go.Joins.below_bytesWorld _ w _ _ (GF _)
  refine ad (aa ?_);refine am (gs:=[999]) rfl ?_;refine ap [] (T) rfl (by kernel_rfl) an (λ _=>rfl) ?_;rintro v H' ⟨rfl,rfl⟩;refine⟨rfl,?_⟩;refine ae [] rfl ?_;refine ad (ad (aa (ae [] rfl ?_)));refine bG rfl ?_;refine aq (ad (aa (ae [] rfl ?_)));refine az [] (by decide) rfl (ay ⟨_,rfl,?_,rfl⟩);rw[h2];rfl
 ·have T:Fn 123 [dF l,.int .i64 10,.int .i64 64] [] V.heap λ u H'=>∃ (i:Int) (g:Nat),u=.tuple #[.int .i64 i,.iface 246 (.pointer (some ⟨g,0,none⟩))]/\H'=[]:=by
   intro w hw;have hv:=V.varE (hw.holds (.tab _ V.oE) (by simp[b5.heap]));refine (Any.strconv_ParseInt_10_at64_range_var Tryz.laysC174 ⟨l.toArray⟩ (by rw[cC];exact hl) h1 V.tp V.pe w hv).mono ?_;rintro e w' ⟨g,he,_,_,hb⟩;exact⟨_,[],he,lu hw hb,_,g,rfl,rfl⟩
  refine ad (aa ?_);refine am (gs:=[999]) rfl ?_;refine b9 [] T rfl rfl rfl rfl (by kernel_rfl) ⟨⟨0,by simp,rfl⟩,⟨1,by simp,rfl⟩,⟨2,by simp,rfl⟩,an⟩ (λ _=>rfl) ?_;rintro u H' ⟨i,g,rfl,rfl⟩;refine⟨rfl,?_⟩;refine ae [] rfl ?_;refine ad (ad (aa (ae [] rfl ?_)));refine bi rfl ?_;refine ad (aa (ae [] rfl ?_));refine az [] (by decide) rfl (ay ⟨_,rfl,?_,rfl⟩);rw[h2];rfl
open Lib
theorem CF{w:World}{t u ty e:Nat}{i:TypeInfo}(ht:Tryz.prog.underlying t=some (.slice e))(hu:Tryz.prog.underlying u=some .string)(hi:Tryz.prog.info? e=some i)(hz:i.zero=some (.int .u8 0))(hs:i.size=1)(hb:i.bytes=1)
 (v:Value) (n:Nat) (xs:LV_) (hown:w.ownsRow 0 e 1 v n xs) (s:ByteArray) (h:n+s.size<=140737488355328):
 ∃ v' w',(Builtin.append_ #[t,u] ty #[v,.string s]).run Tryz.prog w=.ok v' w'/\w'.ownsRow 0 e 1 v' (n+s.size) (xs++strCells s)/\w.grownBy w' v.ownBlock/\∀ b,v'.ownBlock=some b->v.ownBlock=some b\/w.heap.size<=b:=by
 obtain⟨v',w',hr,h1,h2,_⟩:=run_append_own_string w 0 t u ty e i ht hu hi hz hs hb v n xs hown s (by unfold maxLen;omega) h (GB _);refine⟨v',w',hr,h1,h2,?_⟩;have hlen:xs.length=n:=by simpa using hown.1
 rcases hown.2 with ⟨rfl,rfl⟩|⟨g,cap,cur,rfl,_,hg,hnc,hcm,hcs,_⟩
 ·obtain rfl:xs=[]:=List.eq_nil_of_length_eq_zero hlen;obtain⟨v2,w2,hr2,k1,_,_⟩:=run_append_own_string w w.heap.size t u ty e i ht hu hi hz hs hb (.slice none 0 0) 0 [] (World.ownsRow_nil w _ e 1) s (by unfold maxLen;omega) h (Nat.le_refl _);rw[hr] at hr2
  injection hr2 with hv _
  subst hv;intro b hbk
  rcases k1.2 with ⟨rfl,_⟩|⟨g,cap,cur,rfl,hge,_⟩
  ·cases hbk
  ·simp only[Value.ownBlock,Gs] at hbk;exact .inr (by omega)
 ·by_cases hroom:n+s.size<=cap
  ·have hr3:=run_append_room_string (P:=Tryz.prog) w t u ty e i ht hu hi hs g n cap cur hg s hroom (by simp at hcs;omega);rw[hr] at hr3
   injection hr3 with hv _
   subst hv;exact λ b hbk=>.inl hbk
  ·have hr3:=run_append_grow_string (P:=Tryz.prog) w t u ty e i (.int .u8 0) ht hu hi hz ⟨g,0,none⟩ n cap xs (by rw[hs];simpa using hlen) (hown.cells (g:=g) rfl) s (by omega) (by omega) (by rw[hb];exact growslice_fits (by omega) (by omega));rw[hr] at hr3
   injection hr3 with hv _
   subst hv;intro b hbk;simp only[Value.ownBlock,Gs] at hbk;exact .inr (by omega)
section
variable {X:Cx} {Q:dQ} {E:Env} {H K:Heap}
theorem ye(m:LU):strCells ⟨m.toArray⟩=byteCells m:=rfl
theorem m7{F:OA->Nat->Env}{ops l:List Oper}{o:Oper}{t u e n c0 s1 s2 sz' by':Nat}{s x:Operand}{A0:OA}{z z':Option Value}{uk:UK}{xs:LV_}{m:LU}(k:Nat)
 (ho:o.op=.call ⟨.builtin .append,#[s,x],#[t,u]⟩) (hs:val E s=some (.slice A0 n c0)) (hx:val E x=some (dF m)) (ht:tab t=some ⟨.slice e,sz',by',z⟩) (hu:tab u=some ⟨.string,s1,s2,z'⟩) (he:tab e=some ⟨uk,1,1,some (.int .u8 0)⟩)
 (hk:H[k]?=some (.own (.slice A0 n c0) e 1 n xs)) (hmax:n+m.length<=140737488355328) (hb:∀ A c,jH X.n ops [] E o (.slice A (n+m.length) c)=some (F A c))
 (h:∀ A c,JL X ops l Q (F A c) (H.set k (.own (.slice A (n+m.length) c) e 1 (n+m.length) (xs++byteCells m)))):JL X ops (o::l) Q E H:=by
 obtain⟨j,hi,hjz,hjs,hjb⟩:=ir he
 refine sO (α:=OA×Nat) (f:=λ p=>.slice p.1 (n+m.length) p.2) (F:=λ p=>F p.1 p.2)
  (G:=λ p=>H.set k (.own (.slice p.1 (n+m.length) p.2) e 1 (n+m.length) (xs++byteCells m))) [] (λ p=>hb p.1 p.2) (λ a w hA hH=>?_) (λ p=>h p.1 p.2)
 have hown:w.ownsRow 0 e 1 (.slice A0 n c0) n xs:=hH.holds _ (Gu hk);obtain⟨v',w',hr,h1,h2,h3⟩:=CF (w:=w) (ty:=o.type) (dN ht) (iA hu) hi hjz hjs hjb _ n xs hown ⟨m.toArray⟩ (by rw[cC];exact hmax);rw[cC,ye] at h1
 obtain⟨A,c,rfl⟩:∃ A c,v'=.slice A (n+m.length) c:=by
  rcases h1.2 with ⟨rfl,e0⟩|⟨g,cap,cur,rfl,_⟩
  ·exact⟨none,0,by rw[e0]⟩
  ·exact⟨_,_,rfl⟩
 refine⟨(A,c),w',?_,?_⟩
 ·have hr':(Builtin.append_ #[t,u] o.type #[.slice A0 n c0,dF m]).run Tryz.prog w=.ok (.slice A (n+m.length) c) w':=hr;simp[execOp,ho,resolve,invoke,builtin,hA.val hs,hA.val hx,hr']
 ·exact hH.step k hk h2.os h2.tape h2.output h2.size (λ q hq hne=>h2.block q hq (λ x=>hne x.symm)) h1 (λ b' hb'=>h3 b' hb')
theorem Cz{E':Env}{ops l:List Oper}{o:Oper}{f:Operand}{args:Array Operand}{ts:Array TypeId}{g:FuncId}{fst cap vs args':LV_}{v:Value}(gs:LN)(hM:X.M=[])
 (T:∀ w,cO X.w0 X.M w H->Calls Tryz.prog g args'.toArray w λ e w'=>e=.returned v/\Below X.w0.heap.size w w') (ho:o.op=.call ⟨.value f,args,ts⟩) (hf:val E f=some (.func (.func g) fst.toArray cap.toArray))
 (ha:vals E args.toList=some vs) (has:fst++vs++cap=args') (hc:ew g=true) (hb:jH X.n ops gs E o v=some E') (h:JL X ops l Q E' []):JL X ops (o::l) Q E H:=by
 intro a w hA hH;obtain⟨hg,hp⟩:=db hb;unfold wpList;rw[if_pos (ce hA hg)]
 left
 show o.upon _ a _ _ ((execOp a.eval o).run _ w);rw[uv hA ho hf ha hc w,has];refine (T w hH).mono ?_;rintro e w' ⟨rfl,h1⟩;refine h _ _ (hA.putE hp) ⟨h1.os.trans hH.os,h1.tape.trans hH.tape,h1.output.trans hH.output,HG hH.size h1.size,λ k hk hkM=>?_,λ c hc=>absurd hc GP,λ c hc=>absurd hc GP,List.Pairwise.nil⟩;exact (h1.block k hk).trans (hH.keep k hk hkM)
end
def pz(b:Nat)(p:Value)(A:OA)(c:Nat)(m:LU):Heap:=[blk b 116 [p,.slice A m.length c],.own (.slice A m.length c) 5 1 m.length (byteCells m)]
def Ed(b:Nat)(p:Value):Prop:=p=.pointer none\/p=.pointer (some ⟨b,0,none⟩)
theorem xN(b:Nat)(p v:Value)(hp:Ed b p):Fn 93 [.pointer (some ⟨b,0,none⟩)] (aL [blk b 116 [p,v]]) ([]++[blk b 116 [p,v]]) λ _ H'=>H'=[blk b 116 [.pointer (some ⟨b,0,none⟩),v]]:=by
 intro w hw;have hb:w.heap[b]?=some (.cells #[p,v] 116 (0,0)):=hw.holds _ (H8 ..);have hM:aL [blk b 116 [p,v]]=[b]:=rfl
 rcases hp with rfl|rfl
 ·refine (Any.Builder_copyCheck_fresh { Tryz.lays156 with } Tryz.Builder_Extra_156.toX72 b w (by simp[World.cell?,hb]) (by simp[World.shape?,hb];rfl) (by simp[World.frozen?,hb])).mono ?_;rintro e w' ⟨he,rfl⟩;refine⟨.tuple #[],_,he,?_,rfl⟩;refine hw.step 0 rfl rfl rfl rfl (by simp[World.setCell]) (λ k _ hk=>Below.heap_setCell _ _ _ _ (λ e=>hk (by rw[e];rfl))) ?_ (λ b' hb'=>.inl hb');show (w.setCell _ _).heap[b]?=_;simp[World.setCell,Array.getElem?_modify,hb]
 ·refine (Any.Builder_copyCheck_used { Tryz.lays156 with } Tryz.Builder_Extra_156.toX72 b w (by simp[World.cell?,hb])).mono ?_;rintro e w' ⟨he,rfl⟩;exact⟨.tuple #[],_,he,hw,rfl⟩
theorem sH(b:Nat)(p:Value)(hp:Ed b p)(A:OA)(c:Nat)(m s:LU)(hl:m.length+s.length<=1000000000000):Fn 53 [.pointer (some ⟨b,0,none⟩),dF s] (aL (pz b p A c m)) ([]++pz b p A c m)
 λ _ H'=>∃ (A':OA) (c':Nat),H'=pz b (.pointer (some ⟨b,0,none⟩)) A' c' (m++s):=by
 refine aJ Tryz.func53 rfl rfl λ w0=>?_;refine ad (aa (ae [] rfl ?_));refine ad (aa (ah [] rfl ?_));refine aw (fst:=[]) (cap:=[]) [] (xN b p _ hp) rfl rfl rfl rfl (by kernel_rfl) aH.refl an (λ _=>rfl) ?_;rintro v H' rfl;refine⟨rfl,?_⟩;refine ae [] rfl ?_;refine ad (aa (ah [] rfl ?_));refine ab [] (cB (i:=1) (v:=.slice A m.length c) 0 rfl rfl rfl rfl) rfl ?_;refine ah [] rfl ?_;refine m7 (m:=s) 1 rfl rfl rfl rfl rfl rfl rfl (by omega) (λ _ _=>rfl) λ A' c'=>?_;refine ah [] rfl ?_;refine aA 0 rfl [] rfl ?_;refine ae [] rfl ?_;refine ad (aa (ae [] rfl ?_));refine ay ?_;refine⟨_,rfl,A',c',?_⟩;unfold pz;rw[Gx,show byteCells (m++s)=byteCells m++byteCells s by simp[byteCells]];rfl
theorem ER{X:Cx}(hM:X.M=[]){w:World}{H:Heap}(b:Nat)(p:Value)(hp:Ed b p)(A:OA)(c:Nat)(m:LU)(hH:cO X.w0 X.M w (pz b p A c m++H)):
 Calls Tryz.prog 55 #[.pointer (some ⟨b,0,none⟩)] w λ e w'=>e=.returned (dF m)/\Below X.w0.heap.size w w':=by
 have hb:w.heap[b]?=some (.cells #[p,.slice A m.length c] 116 (0,0)):=hH.holds (blk b 116 [p,.slice A m.length c]) (by simp[pz]);have ho:w.ownsRow 0 5 1 (.slice A m.length c) m.length (byteCells m):=hH.holds (.own (.slice A m.length c) 5 1 m.length (byteCells m)) (by simp[pz]);have hge:∀ ch∈pz b p A c m,∀ k,ch.mine=some k->X.w0.heap.size<=k:=λ ch hc k hk=>(hH.own ch (List.mem_append_left _ hc) k hk).resolve_right (by rw[hM];exact GP);have hb0:=hge _ (H8 ..) b rfl;have hap:=(HV.1 hH.dis).1;have hne:(Value.slice A m.length c).ownBlock≠some b:=(List.pairwise_cons.1 hap).1 _ (H8 ..)|>.1 b rfl
 have ho2:w.ownsRow X.w0.heap.size 5 1 (.slice A m.length c) (byteCells m).length (byteCells m):=by
  rw[byteCells_length];refine⟨ho.1,?_⟩
  rcases ho.2 with h|⟨g,cap,cur,e,_,r⟩
  ·exact .inl h
  ·exact .inr ⟨g,cap,cur,e,hge _ (HW _ (H8 ..)) g (by rw[show (aV.own (.slice A m.length c) 5 1 m.length (byteCells m)).mine=(Value.slice A m.length c).ownBlock from rfl,e];rfl),r⟩
 have hat:BuilderAt 116 5 X.w0.heap.size b p (byteCells m) w:=⟨hb0,_,hb,ho2,hne⟩
 have his:IsBuilder 116 5 X.w0.heap.size b (byteCells m) w:=by
  rcases hp with rfl|rfl
  ·exact .inl hat
  ·exact .inr hat
 exact Any.Builder_String_any Tryz.lays169 Tryz.Builder_Extra_169 X.w0.heap.size b m w his hH.size
section
variable {X:Cx} {E:Env} {H:Heap}
theorem z3{o:Oper}{t t':Nat}{x y:Operand}{p:Addr}(ho:o.op=.binOp .eql t x y t')(hx:val E x=some (.pointer (some p)))(hy:val E y=some (.pointer none))(h:Tryz.prog.underlying t=some (.pointer (Tryz.prog.pointee t))):gz X o E H (.bool false):=by
 intro a w hA hH;have hg:(eqGuard .eql t x y (.pointer (some p)) (.pointer none)).run Tryz.prog w=.ok () w:=by simp[eqGuard]
 have hb:(binOp .eql t (.pointer (some p)) (.pointer none)).run Tryz.prog w=.ok (.bool false) w:=run_eql_pointer_nil w t (some p) h;simp only[execOp,ho,hA.val hx,hA.val hy,Sem.run_bind,hg,hb,Result.andThen_ok];rfl
end
theorem D5{m:cD}(h:m.a=false)(l:LB):m.lack l=9:=by unfold cD.lack;rw[if_pos h]
theorem rN(m:cD)(ha:m.a=false)(p:Nat)(sg:Int):Fn 22 [.pointer (some ⟨p,0,none⟩),.int .u8 sg] [] [.seg p 0 m.cells] λ v H'=>v=tj (0,9)/\H'=[]:=by
 refine aJ Tryz.func22 rfl rfl λ w0=>?_;refine ad (aa (ae [] rfl ?_));refine ad (ad (aa (ah [] rfl ?_)));refine ap (fst:=[]) (cap:=[]) [] (jn m p [] (by decide) none 0 0 0 0 (λ h=>absurd rfl h) rfl) rfl (by kernel_rfl) ⟨⟨0,_,by simp,rfl,ak _ _ _,av⟩,⟨0,_,by simp,rfl,ge,.inl rfl⟩,an⟩ (λ _=>rfl) ?_;rintro v H' ⟨rfl,rfl⟩;refine⟨rfl,?_⟩;rw[D5 ha];refine ae [] rfl ?_;refine ad (aa (ae [] rfl ?_));refine aC rfl (λ _=>?_) (λ h=>absurd (by decide) h);refine ad (aa (ae [] rfl ?_));exact az [] (by decide) rfl (ay ⟨_,rfl,rfl,rfl⟩)
end Go.Proofs.YtmcnpaelaieniaaGreatDoor
