/- Lines, words, numbers: the program's words and the library's contracts. -/
import Derived.Test.YtpbmihpjgjbndaaGreatDoorQX43
import Derived.Test.YtpbmihpjgjbndaaGreatDoorShelf
import Derived.Lib.LaidTab
import Derived.Lib.SmallJoins
import Derived.Lib.AppendIntMem
import Derived.Test.YtpbmihpjgjbndaaGreatDoorQB
set_option linter.unusedVariables false
set_option linter.unusedSimpArgs false
namespace Go.Proofs.YtpbmihpjgjbndaaGreatDoor
open Go.RowKit
structure eb where
 oM:Obj
 oP:Obj
 oE:Obj
 m:Int
 tp:Nat
 pe:Value
 hM:∃ cs t k,oM=.cells cs t k∧cs[0]?=some (.int .i64 m)
 hP:∃ t k,oP=.cells (Lib.pow10Tab.map fun z=>Value.int .u64 z).toArray t k
 hE:∃ t k,oE=.cells #[.iface tp pe] t k
def eb.heap (V:eb):Heap:=[.tab 1 V.oM,.tab 0 V.oP,.tab 3 V.oE]
theorem uX {w:World} {b i:Nat} {cs:Array Value} {t:Nat} {k:Nat×Nat} {v:Value} (h:w.heap[b]?=some (.cells cs t k)) (hv:cs[i]?=some v):w.cell? ⟨b,i,none⟩=some v:=by
 simp[World.cell?,h,hv]
theorem eb.cellM (V:eb) {w:World} (h:w.heap[1]?=some V.oM):w.cell? ⟨1,0,none⟩=some (.int .i64 V.m):=by
 obtain⟨cs,t,k,e,h0⟩:=V.hM
 rw[e] at h
 exact uX h h0
theorem eb.tabP (V:eb) {w:World} (h:w.heap[0]?=some V.oP):Lib.TabIs Tryz.prog w "internal/strconv.uint64pow10" .u64 Lib.pow10Tab:=by
 obtain⟨t,k,e⟩:=V.hP
 rw[e] at h
 have hg:Tryz.prog.globalNamed "internal/strconv.uint64pow10" =some 0:=by kernel_rfl
 unfold Lib.TabIs World.var?
 rw[hg]
 simp only[Option.bind_some,h]
theorem eb.varE (V:eb) {w:World} (h:w.heap[3]?=some V.oE):w.var? Tryz.prog "strconv.ErrRange" =some #[.iface V.tp V.pe]:=by
 obtain⟨t,k,e⟩:=V.hE
 rw[e] at h
 have hg:Tryz.prog.globalNamed "strconv.ErrRange" =some 3:=by kernel_rfl
 unfold World.var?
 rw[hg]
 simp only[Option.bind_some,h]
def du (l:List (List UInt8)):List Value:=l.map eN
theorem qo (l:List (List UInt8)):(du l).length=l.length:=by simp[du]
theorem qA {l:List (List UInt8)} {i:Nat} {x:List UInt8} (h:l[i]?=some x):(du l)[i]?=some (eN x):=by simp[du,h]
theorem qD (s:ByteArray):eN s.data.toList=.string s:=by unfold eN;rw[Lib.mk_data]
theorem sd (l p:List UInt8):Fn 119 [eN l,eN p] [] [] fun v H'=>v=eN (Lib.trimPrefix l p)∧H'=[]:=
 Fn.of_same (fun w=>Any.strings_TrimPrefix Tryz.lays101 ⟨l.toArray⟩ ⟨p.toArray⟩ w) ⟨rfl,rfl⟩
theorem rA (l p:List UInt8) (hl:l.length≤9223372036854775807):Fn 59 [eN l,eN p] [] [] fun v H'=>v=eN (Lib.trimSuffix l p)∧H'=[]:=
 Fn.of_same (fun w=>Any.strings_TrimSuffix Tryz.lays102 ⟨l.toArray⟩ ⟨p.toArray⟩ w (by rw[cN];exact hl)) ⟨rfl,rfl⟩
theorem xn (l p:List UInt8) (hl:l.length≤9223372036854775807) (hp:p.length<4294967281) (ha:p.all (fun b=>decide (b.toNat<128))=true):Fn 120 [eN l,eN p] [] [] fun v H'=>v=eN (Lib.trimS l p)∧H'=[]:=
 Fn.of_below fun w _=>(Any.strings_Trim_laid Tryz.lays160 (by kernel_rfl) ⟨l.toArray⟩ ⟨p.toArray⟩ w (by rw[cN];exact hl) (by rw[cN];exact hp) (ascii_of_all ha)).mono fun e w' ⟨he,hb⟩=>⟨_,he,hb,rfl,rfl⟩
theorem vm (V:eb) (l:List UInt8) (c:UInt8) (hl:l.length<4294967281):Fn 58 [eN l,eN [c]] [] V.heap fun v H'=>∃ (A:Option Addr) (n:Nat),n=(bD c [] l).length∧v=.slice A n n∧H'=[.own (.slice A n n) 9 1 n (du (bD c [] l))]:=by
 intro w hw
 have hm:=V.cellM (hw.holds (.tab _ V.oM) (by simp[eb.heap]))
 refine (Any.strings_Split { Tryz.laysM146 with } Tryz.laysM146.i9 ⟨l.toArray⟩ ⟨#[c]⟩ V.m w (by rw[cN];exact hl) hm (Nat.le_refl 1)).mono ?_
 rintro e w' ⟨he,hww⟩
 have hgo:=nX c _ ⟨l.toArray⟩ rfl
 have hle:=Lib.countB_le ⟨#[c]⟩ (Nat.le_refl 1) l.length ⟨l.toArray⟩ (by rw[cN];exact Nat.le_refl _)
 rw[cN] at hle
 have hlen:(bD c [] l).length=Lib.countB ⟨l.toArray⟩ ⟨#[c]⟩+1:=by
  rw[← hgo,List.length_map]
  exact Lib.splitB_all ⟨#[c]⟩ (Nat.le_refl 1) 0 _ ⟨l.toArray⟩ rfl
 have hcs:(Lib.splitB ⟨#[c]⟩ 0 (Lib.countB ⟨l.toArray⟩ ⟨#[c]⟩) ⟨l.toArray⟩).map Value.string=du (bD c [] l):=by
  rw[← hgo]
  simp[du,qD]
 have hH:ci w [] w' [blk w.heap.size 9 (du (bD c [] l))]:=by
  rw[hww,hcs]
  exact (hw.mono (K:=[]) (fun c hc=>absurd hc List.not_mem_nil) List.Pairwise.nil).alloc _
 refine⟨_,_,he,hH.blkOwn (sz:=1) (n:=(bD c [] l).length) (by rw[qo];simp) (by rw[hlen];unfold maxLen;omega),some ⟨w.heap.size,0,none⟩,_,hlen.symm,rfl,by rw[hlen]⟩
theorem vu (V:eb) (l:List UInt8) (hl:l.length<4294967281):Fn 20 [eN l] [] V.heap fun v H'=>∃ (A:Option Addr) (n:Nat),n=(aY l).length∧v=.slice A n n∧H'=[.own (.slice A n n) 9 1 n (du (aY l))]:=by
 refine aK Tryz.func20 rfl rfl fun w0=>?_
 refine ad (aa (ae [] rfl ?_))
 refine ad (ad (aa ?_))
 refine ak (gs:=[999]) rfl ?_
 refine ab [] (sG (m:=[]) rfl rfl rfl) rfl ?_
 refine ae [] rfl ?_
 refine aD rfl (fun h0=>?_) (fun h0=>aq ?_)
 ·refine ad (aa (ae [] rfl ?_))
  refine df 9 1 ?_
  refine aC [0] (by decide) rfl (ay ⟨_,rfl,none,0,?_,rfl,?_⟩)
  ·rw[h0];rfl
  ·rw[h0];rfl
 have he:aY l=bD 10 [] (Lib.trimSuffix l [10]):=by unfold aY;rw[if_neg h0]
 have hle:(Lib.trimSuffix l [10]).length≤l.length:=by
  unfold Lib.trimSuffix
  split
  ·rw[List.length_take];omega
  ·exact Nat.le_refl _
 refine ad (aa ?_)
 refine ak (gs:=[999]) rfl ?_
 refine ap [] (rA l [10] (by omega)) rfl rfl rfl rfl (by kernel_rfl) trivial (fun _=>rfl) ?_
 rintro v H' ⟨rfl,rfl⟩
 refine⟨rfl,?_⟩
 refine ap [] (vm V (Lib.trimSuffix l [10]) 10 (by omega)) rfl rfl rfl rfl (by kernel_rfl) ⟨⟨0,by simp,rfl⟩,⟨1,by simp,rfl⟩,⟨2,by simp,rfl⟩,trivial⟩ (fun _=>rfl) ?_
 rintro v H' ⟨A,n,hn,rfl,rfl⟩
 refine⟨rfl,?_⟩
 refine ae [] rfl ?_
 refine aC [0] (by decide) rfl (ay ⟨_,rfl,A,n,by rw[he];exact hn,rfl,by rw[he]⟩)
theorem wo (V:eb) (n:Int) (hn:cL n):Fn 21 [.int .i64 n] [] V.heap fun v H'=>v=eN (Lib.itoa n)∧H'=[]:=by
 have T:Fn 60 [.int .i64 n,.int .i64 10] [] V.heap fun v H'=>v=eN (Lib.itoa n)∧H'=[]:=by
  intro w hw
  have ht:=V.tabP (hw.holds (.tab _ V.oP) (by simp[eb.heap]))
  refine (Any.strconv_FormatInt_10 Tryz.laysM173 n (by unfold cL at hn;omega) (by unfold cL at hn;omega) w ht).mono ?_
  rintro e w' ⟨he,k,os,rfl⟩
  refine⟨_,[],he,?_,rfl,rfl⟩
  exact jr hw (Lib.below_grow _ w (Nat.le_refl _) k os)
 refine aK Tryz.func21 rfl rfl fun w0=>?_
 refine ad (aa (ae [] rfl ?_))
 refine ad (aa ?_)
 refine ak (gs:=[999]) rfl ?_
 refine ap [] T rfl rfl rfl rfl (by kernel_rfl) ⟨⟨0,by simp,rfl⟩,⟨1,by simp,rfl⟩,⟨2,by simp,rfl⟩,trivial⟩ (fun _=>rfl) ?_
 rintro v H' ⟨rfl,rfl⟩
 refine⟨rfl,?_⟩
 refine ae [] rfl ?_
 exact aC [] (by decide) rfl (ay ⟨_,rfl,rfl,rfl⟩)
theorem tw (x:Int) (hx:0≤x∧x≤1114111):Fn 88 [.int .i32 x] [] [] fun v H'=>v=.bool (fw x.toNat)∧H'=[]:=by
 have key:fw x.toNat=dv (x=32∨x=9∨x=13):=by
  by_cases h:x=32∨x=9∨x=13
  ·rw[aA h];rcases h with rfl|rfl|rfl<;>rfl
  ·rw[aB h];simp[fw];omega
 rw[key]
 refine aK Tryz.func88 rfl rfl fun w0=>?_
 refine ad (aa (ae [] rfl ?_))
 refine ad (aa ?_)
 refine ak (gs:=[999]) rfl ?_
 refine ak (gs:=[999]) rfl ?_
 refine ak (gs:=[999]) rfl ?_
 by_cases h1:x=32
 ·refine av 5 (v':=.bool true) rfl (congrArg Value.bool (aA h1)) ?_
  refine ah [2] rfl ?_
  refine ae [2,6] rfl ?_
  exact ay ⟨_,rfl,congrArg Value.bool (aA (.inl h1)).symm,rfl⟩
 refine av 5 (v':=.bool false) rfl (congrArg Value.bool (aB h1)) ?_
 refine ah [2] rfl ?_
 by_cases h2:x=9
 ·refine av 9 (v':=.bool true) rfl (congrArg Value.bool (aA h2)) ?_
  refine ae [2,6] rfl ?_
  exact ay ⟨_,rfl,congrArg Value.bool (aA (.inr (.inl h2))).symm,rfl⟩
 refine av 9 (v':=.bool false) rfl (congrArg Value.bool (aB h2)) ?_
 refine ae [2,6] rfl ?_
 exact ay ⟨_,rfl,congrArg Value.bool (eI ⟨fun h=>.inr (.inr h),fun h=>by omega⟩),rfl⟩
theorem wB (l:List UInt8) (hl:l.length≤4294967296):Fn 54 [eN l] [] [] fun v H'=>∃ (A:Option Addr) (n:Nat),n=(bx l).length∧v=.slice A n n∧H'=[.own (.slice A n n) 9 1 n (du (bx l))]:=by
 have T:Fn 87 [eN l,.func (.func 88) #[] #[]] [] [] fun v H'=>∃ (A:Option Addr) (n:Nat),n=(bx l).length∧v=.slice A n n∧H'=[.own (.slice A n n) 9 1 n (du (bx l))]:=by
  intro w hw
  have hp:PredGrows Tryz.prog 88 #[] fw w:=by
   intro W x hx _
   refine (tw (x:Int) ⟨by omega,by omega⟩ W ⟨rfl,rfl,rfl,Nat.le_refl _,fun _ _ _=>rfl,fun c hc=>absurd hc List.not_mem_nil,fun c hc=>absurd hc List.not_mem_nil,List.Pairwise.nil⟩).mono ?_
   rintro e w' ⟨v,H',he,hH,rfl,rfl⟩
   rw[Int.toNat_natCast] at he
   exact⟨he,⟨hH.os,hH.tape,hH.output,hH.size,fun k hk=>hH.keep k hk (by simp)⟩⟩
  have heq:=nz ⟨l.toArray⟩
  refine (Any.strings_FieldsFunc_grows Tryz.lays229 88 #[] (eA (by kernel_rfl)) fw ⟨l.toArray⟩ w (by rw[cN];exact hl) hp (by kernel_rfl) (by kernel_rfl)).mono ?_
  rintro e w' ⟨g,he,hg,hrow,hb⟩
  have hlen:(Lib.goFieldsP fw ⟨l.toArray⟩).length=(bx l).length:=by
   have:=congrArg List.length heq
   simpa using this
  have hcs:(Lib.goFieldsP fw ⟨l.toArray⟩).map Value.string=du (bx l):=by
   have h2:bx l=(Lib.goFieldsP fw ⟨l.toArray⟩).map (·.data.toList):=heq.symm
   rw[h2]
   simp[du,qD]
  refine⟨_,_,he,⟨hb.os,hb.tape,hb.output,hb.size,fun k hk _=>hb.block k hk,fun c hc=>?_,fun c hc b hb'=>?_,List.pairwise_singleton _ _⟩,some ⟨g,0,none⟩,_,hlen,rfl,by rw[← hcs]⟩
  ·obtain rfl:=List.mem_singleton.1 hc
   obtain⟨h1,h2⟩:=hrow
   refine⟨h1,h2.imp id ?_⟩
   rintro⟨g',cap,cur,k1,k2,k3⟩
   exact⟨g',cap,cur,k1,Nat.zero_le _,k3⟩
  ·obtain rfl:=List.mem_singleton.1 hc
   simp only[aQ.mine,Value.ownBlock,Option.some.injEq] at hb'
   exact .inl (by omega)
 refine aK Tryz.func54 rfl rfl fun w0=>?_
 refine ad (aa (ae [] rfl ?_))
 refine ad (aa ?_)
 refine ak (gs:=[999]) rfl ?_
 refine ap [] T rfl rfl rfl rfl (by kernel_rfl) trivial (fun _=>rfl) ?_
 rintro v H' ⟨A,n,hn,rfl,rfl⟩
 refine⟨rfl,?_⟩
 refine ae [] rfl ?_
 exact aC [0] (by decide) rfl (ay ⟨_,rfl,A,n,hn,rfl,rfl⟩)
theorem t9 (V:eb) (l:List UInt8) (hl:l.length≤281474976710656):Fn 89 [eN l] [] V.heap fun v H'=>v=pv (dj l)∧H'=[]:=by
 obtain⟨d,hd⟩:∃ d,d=Lib.trimPrefix l [45]:=⟨_,rfl⟩
 obtain⟨n1,n2⟩:=y5 l d hd
 have hdl:d.length≤l.length:=by
  rw[hd];unfold Lib.trimPrefix
  split
  ·rw[List.length_drop];omega
  ·exact Nat.le_refl _
 have T1:=sd l [45]
 rw[← hd] at T1
 refine aK Tryz.func89 rfl rfl fun w0=>?_
 refine ad (aa (ae [] rfl ?_))
 refine ad (aa ?_)
 refine ak (gs:=[999]) rfl ?_
 refine ap [] (T1) rfl rfl rfl rfl (by kernel_rfl) trivial (fun _=>rfl) ?_
 rintro v H' ⟨rfl,rfl⟩
 refine⟨rfl,?_⟩
 refine ae [] rfl ?_
 refine ad ?_
 refine dM [(15,.bool (dv (d=[]∨Lib.trimS d [48,49,50,51,52,53,54,55,56,57]≠[]))),(0,eN l)] V.heap ?_ ?_
 ·skip
  refine aa ?_
  refine ak (gs:=[999]) rfl ?_
  refine ab [] (sG (m:=[]) rfl rfl rfl) rfl ?_
  refine ak (gs:=[999]) rfl ?_
  by_cases h1:d=[]
  ·refine av 11 (v':=.bool true) rfl (congrArg Value.bool (aA h1)) ?_
   refine ae [2] rfl ?_
   exact⟨[0,1,2],⟨congrArg some (congrArg Value.bool (aA (.inl h1)).symm),rfl,trivial⟩,by decide,rfl⟩
  refine av 11 (v':=.bool false) rfl (congrArg Value.bool (aB h1)) ?_
  refine ah [2] rfl ?_
  refine ap [2] (xn d [48,49,50,51,52,53,54,55,56,57] (by omega) (by decide) (by decide)) rfl rfl rfl rfl (by kernel_rfl) trivial (fun _=>rfl) ?_
  rintro v H' ⟨rfl,rfl⟩
  refine⟨rfl,?_⟩
  refine ab [2] (sr (m:=[]) rfl rfl rfl) rfl ?_
  refine ae [2] rfl ?_
  exact⟨[0,1,2],⟨congrArg some (congrArg Value.bool (eI ⟨fun h=>.inr h,fun h=>h.resolve_left h1⟩)),rfl,trivial⟩,by decide,rfl⟩
 refine aD rfl (fun hbad=>?_) (fun hgood=>aq ?_)
 ·refine ad (aa (ae [] rfl ?_))
  refine aC [] (by decide) rfl (ay ⟨_,rfl,?_,rfl⟩)
  rw[n1 hbad];rfl
 rcases n2 hgood with ⟨v,h1,h2⟩|⟨h1,h2⟩
 ·have T:Fn 121 [eN l,.int .i64 10,.int .i64 64] [] [] fun u H'=>u=.tuple #[.int .i64 v,.nilIface]∧H'=[]:=by
   intro w hw
   refine (Any.strconv_ParseInt_10_at64_ok Tryz.laysC174 ⟨l.toArray⟩ (by rw[cN];omega) v h1 w).mono ?_
   rintro e w' ⟨he,hww⟩
   refine⟨_,[],he,jr hw ?_,rfl,rfl⟩
   rcases hww with rfl|⟨t,rfl⟩
   ·exact Below.refl _ _
   ·exact Go.Joins.below_bytesWorld _ w _ _ (Nat.le_refl _)
  refine ad (aa ?_)
  refine ak (gs:=[999]) rfl ?_
  refine ap [] (T) rfl rfl rfl rfl (by kernel_rfl) trivial (fun _=>rfl) ?_
  rintro v H' ⟨rfl,rfl⟩
  refine⟨rfl,?_⟩
  refine ae [] rfl ?_
  refine ad (ad (aa (ae [] rfl ?_)))
  refine bq rfl ?_
  refine aq (ad (aa (ae [] rfl ?_)))
  refine aC [] (by decide) rfl (ay ⟨_,rfl,?_,rfl⟩)
  rw[h2];rfl
 ·have T:Fn 121 [eN l,.int .i64 10,.int .i64 64] [] V.heap fun u H'=>∃ (i:Int) (g:Nat),u=.tuple #[.int .i64 i,.iface 256 (.pointer (some ⟨g,0,none⟩))]∧H'=[]:=by
   intro w hw
   have hv:=V.varE (hw.holds (.tab _ V.oE) (by simp[eb.heap]))
   refine (Any.strconv_ParseInt_10_at64_range_var Tryz.laysC174 ⟨l.toArray⟩ (by rw[cN];exact hl) h1 V.tp V.pe w hv).mono ?_
   rintro e w' ⟨g,he,_,_,hb⟩
   exact⟨_,[],he,jr hw hb,_,g,rfl,rfl⟩
  refine ad (aa ?_)
  refine ak (gs:=[999]) rfl ?_
  refine ap [] T rfl rfl rfl rfl (by kernel_rfl) ⟨⟨0,by simp,rfl⟩,⟨1,by simp,rfl⟩,⟨2,by simp,rfl⟩,trivial⟩ (fun _=>rfl) ?_
  rintro u H' ⟨i,g,rfl,rfl⟩
  refine⟨rfl,?_⟩
  refine ae [] rfl ?_
  refine ad (ad (aa (ae [] rfl ?_)))
  refine a8 rfl ?_
  refine ad (aa (ae [] rfl ?_))
  refine aC [] (by decide) rfl (ay ⟨_,rfl,?_,rfl⟩)
  rw[h2];rfl
end Go.Proofs.YtpbmihpjgjbndaaGreatDoor
