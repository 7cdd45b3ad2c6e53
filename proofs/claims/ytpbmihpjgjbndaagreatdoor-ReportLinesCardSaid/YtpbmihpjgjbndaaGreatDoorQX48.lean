/- The engine and the words that all chapters share: several texts in one. -/
import Derived.Lib.SpaceUEq
import Derived.Lib.FieldsP
import Derived.Lib.SplitLaws
import Derived.Lib.ParseIntBCases
import Derived.Lib.SlTrimSet
import Derived.Test.YtpbmihpjgjbndaaGreatDoorQB
import Derived.Laws.Concat
import Derived.Laws.Strings
import Derived.Laws.Strings2
import Derived.Laws.Slices
import Derived.Lib.ItoaNum
/- Lines, words and numbers of texts, in plain words. -/
set_option linter.unusedVariables false
set_option linter.unusedSimpArgs false
namespace Go.Proofs.YtpbmihpjgjbndaaGreatDoor
open Go.Lib
/-! ### Words -/
def lq (b:UInt8):Bool:=b.toNat==32||b.toNat==9||b.toNat==13
def fm (r:Nat):Bool:=r==32||r==9||r==13
def bM (cur:List UInt8):List UInt8→List (List UInt8)
 |[]=>if cur=[] then [] else [cur]
 |b::l=>if lq b then (if cur=[] then bM [] l else cur::bM [] l) else bM (cur++[b]) l
def bx (l:List UInt8):List (List UInt8):=bM [] l
theorem iw:∀ (t cur r:List UInt8),(∀ b∈t,lq b=false)→bM cur (t++r)=bM (cur++t) r
 |[],cur,r,_=>by simp
 |b::t,cur,r,h=>by
  rw[List.cons_append,bM,if_neg (by rw[h b (by simp)];decide),iw t (cur++[b]) r (fun x hx=>h x (by simp[hx])),List.append_assoc]
  rfl
theorem sa (n b0 b1 b2 b3:Nat) (hn:1≤n):1≤(decodeN n b0 b1 b2 b3).2∧(decodeN n b0 b1 b2 b3).2≤n∧(fm (decodeN n b0 b1 b2 b3).1=true→(decodeN n b0 b1 b2 b3).2=1∧fm b0=true)∧
 (fm (decodeN n b0 b1 b2 b3).1=false→fm b0=false∧(2≤(decodeN n b0 b1 b2 b3).2→128≤b1)∧(3≤(decodeN n b0 b1 b2 b3).2→128≤b2)∧(4≤(decodeN n b0 b1 b2 b3).2→128≤b3))∧(decodeN n b0 b1 b2 b3).2≤4:=by
 have hle:=decodeN_le_n' n b0 b1 b2 b3 hn
 obtain⟨c2,c3,c4,c5⟩:=decodeN_conts n b0 b1 b2 b3
 have key:∀ r:Nat,fm r=true↔(r=32∨r=9∨r=13):=fun r=>by simp[fm,or_assoc]
 have key2:∀ r:Nat,fm r=false↔¬ (r=32∨r=9∨r=13):=fun r=>by rw[← key];simp
 have h1:1≤(decodeN n b0 b1 b2 b3).2:=by
  rcases decodeN_cases n b0 b1 b2 b3 with ⟨c,e⟩|⟨_,_,_,_,e⟩|⟨_,_,_,_,_,e⟩|⟨_,e⟩|e<;>rw[e]<;>simp
 refine⟨h1,hle,fun h=>?_,fun h=>⟨?_,fun k=>?_,fun k=>?_,fun k=>?_⟩,c5⟩
 ·rw[key] at h ⊢
  rcases decodeN_cases n b0 b1 b2 b3 with ⟨c,e⟩|⟨_,_,_,_,e⟩|⟨_,_,_,_,_,e⟩|⟨c,e⟩|e
  ·rw[e] at h ⊢;exact⟨rfl,h⟩
  ·rw[e] at h;dsimp only at h;omega
  ·rw[e] at h;dsimp only at h;omega
  ·omega
  ·rw[e] at h;dsimp only at h;omega
 ·rw[key2] at h ⊢
  rcases decodeN_cases n b0 b1 b2 b3 with ⟨c,e⟩|⟨c,_,_,_,e⟩|⟨c,_,_,_,_,e⟩|⟨c,e⟩|e
  ·rw[e] at h;exact h
  ·omega
  ·omega
  ·intro hb
   have:decodeN n b0 b1 b2 b3=(b0,1):=by unfold decodeN;rw[if_pos (by omega)]
   rw[this] at e;simp at e
  ·intro hb
   have:decodeN n b0 b1 b2 b3=(b0,1):=by unfold decodeN;rw[if_pos (by omega)]
   rw[this] at e
   simp only[Prod.mk.injEq] at e
   omega
 ·have:=(c2 k).1;omega
 ·have:=(c3 k).1;omega
 ·have:=(c4 k).1;omega
theorem od (s:ByteArray) (i:Nat) (h:i<s.size):s.data.toList[i]?=some (s.get! i):=by
 obtain⟨⟨l⟩⟩:=s
 have h':i<l.length:=h
 show l[i]?=_
 rw[List.getElem?_eq_getElem h']
 simp only[ByteArray.get!,Option.some.injEq]
 show l[i]=l.toArray[i]!
 rw[getElem!_pos l.toArray i (by simpa using h')]
 simp
theorem qk (b:UInt8):lq b=fm b.toNat:=rfl
theorem ut (s:ByteArray) (i:Nat) (h:i<s.size):1≤(Utf8.decode s i).2∧i+(Utf8.decode s i).2≤s.size∧
 (fm (Utf8.decode s i).1=true→(Utf8.decode s i).2=1∧∃ b,s.data.toList[i]?=some b∧lq b=true)∧
 (fm (Utf8.decode s i).1=false→∀ b∈(s.data.toList.drop i).take (Utf8.decode s i).2,lq b=false):=by
 rw[decode_at]
 obtain⟨h1,h2,h3,h4,h5⟩:=sa (s.size-i) (s.get! i).toNat (s.get! (i+1)).toNat (s.get! (i+2)).toNat (s.get! (i+3)).toNat (by omega)
 refine⟨h1,by omega,fun hs=>⟨(h3 hs).1,_,od s i h,by rw[qk];exact (h3 hs).2⟩,fun hs b hb=>?_⟩
 obtain⟨g0,g1,g2,g3⟩:=h4 hs
 obtain⟨j,hj,e⟩:=List.getElem_of_mem hb
 rw[List.length_take,List.length_drop] at hj
 rw[List.getElem_take,List.getElem_drop] at e
 have hsz:s.data.toList.length=s.size:=(size_eq s).symm
 have hk:s.data.toList[i+j]?=some b:=by rw[List.getElem?_eq_getElem (by omega),e]
 have hg:=od s (i+j) (by omega)
 rw[hg] at hk
 obtain rfl:=Option.some.inj hk
 have key2:∀ r:Nat,128≤r→fm r=false:=fun r hr=>by simp[fm];omega
 rw[qk]
 match j,hj with
 |0,_=>exact g0
 |1,hj=>exact key2 _ (g1 (by omega))
 |2,hj=>exact key2 _ (g2 (by omega))
 |3,hj=>exact key2 _ (g3 (by omega))
 |j+4,hj=>omega
def iP (s:ByteArray) (x:Nat×Nat):List UInt8:=(s.extract x.1 x.2).data.toList
theorem u4 (s:ByteArray):∀ (f pos:Nat) (st:Option Nat) (acc:List (Nat×Nat)),s.size≤pos+f→pos≤s.size→(∀ a,st=some a→a<pos)→
 (closeSpans s (spansFromP fm s f pos st acc)).map (iP s)=acc.map (iP s)++bM (openPiece s.data.toList st pos) (s.data.toList.drop pos):=by
 have hsz:s.data.toList.length=s.size:=(size_eq s).symm
 have fin:∀ (f pos:Nat) (st:Option Nat) (acc:List (Nat×Nat)),pos=s.size→(∀ a,st=some a→a<pos)→
  (closeSpans s (spansFromP fm s f pos st acc)).map (iP s)=acc.map (iP s)++bM (openPiece s.data.toList st pos) (s.data.toList.drop pos):=by
  intro f pos st acc hp hst
  rw[spansFromP_end fm s f pos st acc (by omega),List.drop_eq_nil_of_le (by omega)]
  cases st with
  |none=>simp[closeSpans,bM,openPiece]
  |some a=>
   have hlt:=hst a rfl
   have hne:pieceU s.data.toList a pos≠[]:=pieceU_ne _ _ _ hlt (by omega)
   have hpc:iP s (a,s.size)=pieceU s.data.toList a pos:=by unfold iP pieceU;rw[extract_eq,hp]
   simp only[closeSpans,bM,openPiece,hne,↓reduceIte,List.map_append,List.map_cons,List.map_nil,hpc]
 intro f
 induction f with
 |zero=>exact fun pos st acc h1 h2 h3=>fin 0 pos st acc (by omega) h3
 |succ f ih=>
  intro pos st acc h1 h2 h3
  by_cases hlt:pos<s.size
  ·obtain⟨d1,d2,d3,d4⟩:=ut s pos hlt
   have hsplit:s.data.toList.drop pos=(s.data.toList.drop pos).take (Utf8.decode s pos).2++s.data.toList.drop (pos+(Utf8.decode s pos).2):=by
    rw[← List.drop_drop,List.take_append_drop]
   unfold spansFromP
   rw[if_pos hlt]
   cases hs:fm (Utf8.decode s pos).1 with
   |true=>
    obtain⟨e1,b,hb,hbs⟩:=d3 hs
    have hdrop:s.data.toList.drop pos=b::s.data.toList.drop (pos+1):=by
     obtain⟨hl,e⟩:=List.getElem?_eq_some_iff.1 hb
     rw[List.drop_eq_getElem_cons hl,e]
    rw[if_pos rfl,hdrop]
    cases st with
    |none=>
     simp only
     rw[ih _ none acc (by omega) (by omega) (fun a h=>by cases h),e1]
     simp[openPiece,bM,hbs]
    |some a=>
     have hla:=h3 a rfl
     have hne:pieceU s.data.toList a pos≠[]:=pieceU_ne _ _ _ hla (by omega)
     simp only
     rw[ih _ none _ (by omega) (by omega) (fun a h=>by cases h),e1]
     have hpc:iP s (a,pos)=pieceU s.data.toList a pos:=by unfold iP pieceU;rw[extract_eq]
     simp only[openPiece,bM,hbs,↓reduceIte,hne,List.map_append,List.map_cons,List.map_nil,List.append_assoc,List.singleton_append,hpc]
   |false=>
    have hall:=d4 hs
    rw[if_neg (by decide)]
    have hw:∀ cur,bM cur (s.data.toList.drop pos)=bM (cur++(s.data.toList.drop pos).take (Utf8.decode s pos).2) (s.data.toList.drop (pos+(Utf8.decode s pos).2)):=by
     intro cur
     conv=>lhs;rw[hsplit]
     exact iw _ _ _ hall
    cases st with
    |none=>
     simp only
     rw[ih _ (some pos) acc (by omega) (by omega) (fun a h=>by obtain rfl:=Option.some.inj h;omega),hw]
     congr 2
     show pieceU _ _ _=[]++_
     unfold pieceU
     rw[List.nil_append,Nat.add_sub_cancel_left]
    |some a=>
     have hla:=h3 a rfl
     simp only
     rw[ih _ (some a) acc (by omega) (by omega) (fun a' h=>by obtain rfl:=Option.some.inj h;omega),hw]
     congr 2
     exact (pieceU_grow _ _ _ _ (by omega)).symm
  ·exact fin (f+1) pos st acc (by omega) h3
theorem nC (s:ByteArray):(goFieldsP fm s).map (·.data.toList)=bx s.data.toList:=by
 unfold goFieldsP spansOfP bx
 rw[List.map_map]
 have:=u4 s s.size 0 none [] (by omega) (by omega) (fun a h=>by cases h)
 rw[List.map_nil,List.nil_append,List.drop_zero] at this
 exact this
/-! ### Lines -/
def br (c:UInt8) (cur:List UInt8):List UInt8→List (List UInt8)
 |[]=>[cur]
 |b::l=>if b=c then cur::br c [] l else br c (cur++[b]) l
def bc (l:List UInt8):List (List UInt8):=if l=[] then [] else br 10 [] (trimSuffix l [10])
theorem iC (c:UInt8):∀ (l cur:List UInt8),(∀ b∈l,b≠c)→br c cur l=[cur++l]
 |[],cur,_=>by simp[br]
 |b::l,cur,h=>by rw[br,if_neg (h b (by simp)),iC c l _ (fun x hx=>h x (by simp[hx])),List.append_assoc];rfl
theorem kC (c:UInt8):∀ (l cur r:List UInt8),(∀ b∈l,b≠c)→br c cur (l++c::r)=(cur++l)::br c [] r
 |[],cur,r,_=>by simp[br]
 |b::l,cur,r,h=>by rw[List.cons_append,br,if_neg (h b (by simp)),kC c l _ r (fun x hx=>h x (by simp[hx])),List.append_assoc];rfl
theorem n7 (c:UInt8):∀ (k:Nat) (s:ByteArray),countB s ⟨#[c]⟩=k→(splitB ⟨#[c]⟩ 0 k s).map (·.data.toList)=br c [] s.data.toList
 |k,s,hk=>by
  rcases indexB_cases s ⟨#[c]⟩ with h|⟨i,h,hi⟩
  ·have h':indexByte s.data.toList c=-1:=by rw[← index_one];exact h
   rw[splitB_miss _ _ _ _ h,iC c _ _ (fun b hb e=>by
    obtain⟨j,hj,e2⟩:=List.getElem_of_mem hb
    exact indexByte_none h' j (by rw[List.getElem?_eq_getElem hj,e2,e]))]
   simp
  ·have h':indexByte s.data.toList c=i:=by rw[← index_one];exact h
   obtain⟨h1,h2⟩:=indexByte_some h'
   have hk2:=countB_hit s ⟨#[c]⟩ i (Nat.le_refl 1) h
   have hsz1:(⟨#[c]⟩:ByteArray).size=1:=rfl
   rw[hsz1] at hk2
   obtain⟨k',rfl⟩:∃ k',k=k'+1:=⟨countB (s.extract (i+1) s.size) ⟨#[c]⟩,by omega⟩
   have ih:=n7 c k' (s.extract (i+1) s.size) (by omega)
   have hl:i<s.data.toList.length:=(List.getElem?_eq_some_iff.1 h1).1
   have hdrop:s.data.toList=s.data.toList.take i++c::s.data.toList.drop (i+1):=by
    have e:s.data.toList.drop i=c::s.data.toList.drop (i+1):=by
     rw[List.drop_eq_getElem_cons hl,(List.getElem?_eq_some_iff.1 h1).2]
    rw[← e,List.take_append_drop]
   rw[splitB_hit _ _ _ _ i h,hsz1,List.map_cons,ih,extract_to_end]
   conv=>rhs;rw[hdrop]
   rw[kC c _ _ _ (fun b hb e=>by
    obtain⟨j,hj,e2⟩:=List.getElem_of_mem hb
    rw[List.length_take] at hj
    rw[List.getElem_take] at e2
    exact h2 j (by omega) (by rw[List.getElem?_eq_getElem (by omega),e2,e]))]
   rw[List.nil_append,extract_eq]
   simp
/-! ### Numbers -/
def kW (b:UInt8):Bool:=decide (48≤b.toNat∧b.toNat≤57)
def fk (acc:Nat) (l:List UInt8):Nat:=l.foldl (fun n b=>n*10+(b.toNat-48)) acc
def dE (l:List UInt8):Int×Int:=
 let neg:=l.head?=some 45
 let d:=if neg then l.drop 1 else l
 if d=[]∨¬ d.all kW then (0,2) else
 if neg then (if fk 0 d≤9223372036854775808 then (-(fk 0 d:Int),0) else (0,3))
 else (if fk 0 d≤9223372036854775807 then ((fk 0 d:Int),0) else (0,3))
theorem ss:∀ (l:List UInt8) (acc:Nat),acc≤fk acc l
 |[],_=>Nat.le_refl _
 |b::l,acc=>by
  have:=ss l (acc*10+(b.toNat-48))
  show acc≤fk (acc*10+(b.toNat-48)) l
  omega
theorem oq:∀ (l:List UInt8) (acc:Nat),acc≤18446744073709551615→l.all kW=true→parseUintM 18446744073709551615 acc l=if fk acc l≤18446744073709551615 then .ok (fk acc l) else .range
 |[],acc,h,_=>by rw[if_pos (by exact h)];rfl
 |b::l,acc,h,hd=>by
  rw[List.all_cons,Bool.and_eq_true] at hd
  have hb:48≤b.toNat∧b.toNat≤57:=by simpa [kW] using hd.1
  have hge:=ss l (acc*10+(b.toNat-48))
  have hv:fk acc (b::l)=fk (acc*10+(b.toNat-48)) l:=rfl
  unfold parseUintM
  rw[if_pos hb,hv]
  by_cases h1:1844674407370955162≤acc
  ·rw[if_pos h1,if_neg (by omega)]
  ·rw[if_neg h1]
   by_cases h2:18446744073709551615<acc*10+(b.toNat-48)
   ·rw[if_pos h2,if_neg (by omega)]
   ·rw[if_neg h2]
    exact oq l _ (by omega) hd.2
theorem uG (cs:List UInt8):∀ l:List UInt8,trimS l cs=[]↔∀ b∈l,cs.contains b=true:=by
 have hd:∀ l:List UInt8,l.dropWhile (cs.contains ·)=[]↔∀ b∈l,cs.contains b=true:=by
  intro l
  induction l with
  |nil=>simp
  |cons b l ih=>
   rw[List.dropWhile_cons]
   cases hb:cs.contains b with
   |true=>rw[if_pos rfl,ih];simp only[List.mem_cons,forall_eq_or_imp,hb,true_and]
   |false=>
    rw[if_neg (by decide)]
    exact⟨fun h=>by simp at h,fun h=>by rw[h b (by simp)] at hb;cases hb⟩
 intro l
 unfold trimS trimLeftS trimRightS
 rw[hd]
 constructor
 ·intro h
  have:l.reverse.dropWhile (cs.contains ·)=[]:=by
   cases hr:l.reverse.dropWhile (cs.contains ·) with
   |nil=>rfl
   |cons x r=>
    have h1:=h x (by rw[hr];simp)
    have h2:=List.head?_dropWhile_not (cs.contains ·) l.reverse
    rw[hr] at h2
    simp only[List.head?_cons] at h2
    rw[h1] at h2
    simp at h2
  intro b hb
  exact (hd l.reverse).1 this b (by simpa using hb)
 ·intro h b hb
  exact h b (by
   have:=List.mem_reverse.1 hb
   simpa using (List.dropWhile_sublist (cs.contains ·)).subset this)
theorem mg (b:UInt8):([48,49,50,51,52,53,54,55,56,57]:List UInt8).contains b=kW b:=by
 have key:∀ i:Fin 256,([48,49,50,51,52,53,54,55,56,57]:List UInt8).contains (UInt8.ofNat i.val)=kW (UInt8.ofNat i.val):=by decide+kernel
 have:=key ⟨b.toNat,b.toNat_lt⟩
 simpa using this
theorem yS (l:List UInt8) (d:List UInt8) (hd:d=trimPrefix l [45]):
 (d=[]∨trimS d [48,49,50,51,52,53,54,55,56,57]≠[]→dE l=(0,2))∧
 (¬ (d=[]∨trimS d [48,49,50,51,52,53,54,55,56,57]≠[])→(∃ v,parseIntB 64 l=.ok v∧dE l=(v,0))∨(parseIntB 64 l=.range∧dE l=(0,3))):=by
 have hpre:d=if l.head?=some 45 then l.drop 1 else l:=by
  rw[hd]
  unfold trimPrefix hasPrefix
  cases l with
  |nil=>simp
  |cons b l=>
   by_cases hb:b=45
   ·subst hb;simp[List.isPrefixOf]
   ·have:¬ (45:UInt8)=b:=fun e=>hb e.symm
    simp[List.isPrefixOf,hb,this]
 have htr:trimS d [48,49,50,51,52,53,54,55,56,57]≠[]↔¬ d.all kW=true:=by
  rw[ne_eq,uG]
  simp only[mg,List.all_eq_true]
 rw[htr]
 constructor
 ·intro h
  unfold dE
  simp only
  rw[← hpre,if_pos h]
 ·intro h
  obtain⟨h1,h2⟩:=not_or.1 h
  have h2:=Classical.not_not.1 h2
  have hN:dE l=if l.head?=some 45 then (if fk 0 d≤9223372036854775808 then (-(fk 0 d:Int),0) else (0,3)) else (if fk 0 d≤9223372036854775807 then ((fk 0 d:Int),0) else (0,3)):=by
   unfold dE
   simp only
   rw[← hpre,if_neg h]
  have hU:parseUintB 64 d=if fk 0 d≤18446744073709551615 then .ok (fk 0 d) else .range:=by
   unfold parseUintB
   rw[if_neg h1]
   exact oq d 0 (by omega) h2
  cases l with
  |nil=>rw[hpre] at h1;simp at h1
  |cons b r=>
   by_cases hb:b=45
   ·subst hb
    have hdr:d=r:=by rw[hpre];rfl
    rw[if_pos (show (45::r).head?=some 45 from rfl)] at hN
    have hP:parseIntB 64 (45::r)=match parseUintB 64 r with
     |NumEnd.syntax=>NumEnd.syntax
     |.range=>.range
     |.ok u=>if 2^63<u then .range else .ok (-(u:Int)):=by
     unfold parseIntB
     simp
     rfl
    rw[hN,hP,← hdr,hU]
    by_cases h3:fk 0 d≤18446744073709551615
    ·rw[if_pos h3]
     simp only
     by_cases h4:fk 0 d≤9223372036854775808
     ·rw[if_neg (by omega),if_pos h4];exact .inl ⟨_,rfl,rfl⟩
     ·rw[if_pos (by omega),if_neg h4];exact .inr ⟨rfl,rfl⟩
    ·rw[if_neg h3,if_neg (by omega)];exact .inr ⟨rfl,rfl⟩
   ·have hdr:d=b::r:=by rw[hpre,if_neg (by simp[hb])]
    rw[if_neg (by simp[hb])] at hN
    have hdig:kW b=true:=by rw[hdr] at h2;simp at h2;exact h2.1
    have hbn:48≤b.toNat∧b.toNat≤57:=by simpa [kW] using hdig
    have hP:parseIntB 64 (b::r)=match parseUintB 64 (b::r) with
     |NumEnd.syntax=>NumEnd.syntax
     |.range=>.range
     |.ok u=>if 2^63≤u then .range else .ok (u:Int):=by
     have n1:¬ b.toNat=45:=by omega
     have n2:¬ b.toNat=43:=by omega
     unfold parseIntB
     simp[n1,n2]
     rfl
    rw[hN,hP,← hdr,hU]
    by_cases h3:fk 0 d≤18446744073709551615
    ·rw[if_pos h3]
     simp only
     by_cases h4:fk 0 d≤9223372036854775807
     ·rw[if_neg (by omega),if_pos h4];exact .inl ⟨_,rfl,rfl⟩
     ·rw[if_pos (by omega),if_neg h4];exact .inr ⟨rfl,rfl⟩
    ·rw[if_neg h3,if_neg (by omega)];exact .inr ⟨rfl,rfl⟩
end Go.Proofs.YtpbmihpjgjbndaaGreatDoor
/- Texts in the engine: strings as rows of bytes, and contracts of the library as promises. -/
set_option linter.unusedVariables false
set_option linter.unusedSimpArgs false
namespace Go.Proofs.YtpbmihpjgjbndaaGreatDoor
open Go.RowKit
def dy (l:List UInt8):Value:=.string ⟨l.toArray⟩
theorem dx (l:List UInt8):(⟨l.toArray⟩:ByteArray).size=l.length:=by show l.toArray.size=_;simp
theorem ki (l:List UInt8):(⟨l.toArray⟩:ByteArray).toList=l:=by rw[ByteArray.toList_eq]
theorem jZ (l m:List UInt8):((⟨l.toArray⟩:ByteArray).toList==(⟨m.toArray⟩:ByteArray).toList)=dI (l=m):=by
 rw[ki,ki]
 by_cases h:l=m
 ·rw[az h,h];simp
 ·rw[aA h];simpa using h
section
variable {X:Cx} {E:Env} {H:Heap}
theorem ka {o:Oper} {t t':Nat} {x y:Operand} {l m:List UInt8} (ho:o.op=.binOp .add t x y t') (hx:val E x=some (dy l)) (hy:val E y=some (dy m)) (h:l.length+m.length≤9223372036854775807):gW X o E H (dy (l++m)):=by
 intro a w hA hH
 have h1:=run_string_add_sum (P:=Tryz.prog) (w:=w) ⟨l.toArray⟩ ⟨m.toArray⟩ (by rw[dx,dx];exact h)
 have e:(⟨l.toArray⟩:ByteArray)++⟨m.toArray⟩=⟨(l++m).toArray⟩:=by
  apply ByteArray.ext
  rw[ByteArray.data_append]
  simp
 rw[e] at h1
 unfold dy at*
 simp[execOp,ho,hA.val hx,hA.val hy,lM,h1,binOp]
theorem l5 {o:Oper} {t t':Nat} {x y:Operand} {l m:List UInt8} (ho:o.op=.binOp .eql t x y t') (hx:val E x=some (dy l)) (hy:val E y=some (dy m)):gW X o E H (.bool (dI (l=m))):=by
 have h:gW X o E H (.bool ((⟨l.toArray⟩:ByteArray).toList==(⟨m.toArray⟩:ByteArray).toList)):=g7 (by rw[ho];simp only[lV,hx,hy,dy];rfl)
 rw[jZ] at h
 exact h
theorem x9 {o:Oper} {t t':Nat} {x y:Operand} {l m:List UInt8} (ho:o.op=.binOp .neq t x y t') (hx:val E x=some (dy l)) (hy:val E y=some (dy m)):gW X o E H (.bool (dI (l≠m))):=by
 have h:gW X o E H (.bool (!((⟨l.toArray⟩:ByteArray).toList==(⟨m.toArray⟩:ByteArray).toList))):=g7 (by rw[ho];simp only[lV,hx,hy,dy];rfl)
 rw[jZ] at h
 have e:(!(dI (l=m)))=dI (l≠m):=by
  by_cases h:l=m
  ·rw[az h,aA (fun k=>k h)];rfl
  ·rw[aA h,az h];rfl
 rw[e] at h
 exact h
end
/-! ### Contracts as promises -/
theorem Fn.of_same {f:FuncId} {args:List Value} {H:Heap} {v:Value} {R:Value→Heap→Prop} (h:∀ w,Calls Tryz.prog f args.toArray w fun e w'=>e=.returned v∧w'=w) (hR:R v []):Fn f args [] H R:=fun w hw=>
 (h w).mono fun e w' ⟨he,hww⟩=>⟨v,[],he,(by subst hww;exact hw.mono (fun c hc=>by cases hc) List.Pairwise.nil),hR⟩
theorem jv {w w':World} {H:Heap} (hw:cm w [] w H) (hb:Below w.heap.size w w'):cm w [] w' []:=
 ⟨hb.os,hb.tape,hb.output,hb.size,fun k hk _=>hb.block k hk,fun c hc=>absurd hc List.not_mem_nil,fun c hc=>absurd hc List.not_mem_nil,List.Pairwise.nil⟩
theorem Fn.of_below {f:FuncId} {args:List Value} {H:Heap} {R:Value→Heap→Prop} (h:∀ w,cm w [] w H→Calls Tryz.prog f args.toArray w fun e w'=>∃ v,e=.returned v∧Below w.heap.size w w'∧R v []):Fn f args [] H R:=fun w hw=>
 (h w hw).mono fun e w' ⟨v,he,hb,hR⟩=>⟨v,[],he,jv hw hb,hR⟩
end Go.Proofs.YtpbmihpjgjbndaaGreatDoor
/- More of lines, words and numbers, in plain words. -/
set_option linter.unusedVariables false
set_option linter.unusedSimpArgs false
namespace Go.Proofs.YtpbmihpjgjbndaaGreatDoor
open Go.Lib
/-! ### Digits -/
theorem sX {u:Nat} (h:u<10):decDigits u=[UInt8.ofNat (48+u)]:=by rw[decDigits,dif_pos h]
theorem tq {u:Nat} (h:10≤u):decDigits u=decDigits (u/10)++[UInt8.ofNat (48+u%10)]:=by rw[decDigits,dif_neg (by omega)]
theorem rC {P:Nat→Prop} (h1:∀ u,u<10→P u) (h2:∀ u,10≤u→P (u/10)→P u) (u:Nat):P u:=by
 induction u using Nat.strongRecOn with
 |_ u ih=>
  by_cases h:u<10
  ·exact h1 u h
  ·exact h2 u (by omega) (ih _ (by omega))
theorem vf (acc:Nat) (l m:List UInt8):fk acc (l++m)=fk (fk acc l) m:=by unfold fk;rw[List.foldl_append]
theorem ma {k:Nat} (h:k<10):(UInt8.ofNat (48+k)).toNat=48+k:=by
 rw[UInt8.toNat_ofNat'];omega
theorem v8 (u:Nat):fk 0 (decDigits u)=u:=by
 induction u using rC with
 |h1 u h=>rw[sX h];show 0*10+((UInt8.ofNat (48+u)).toNat-48)=u;rw[ma h];omega
 |h2 u h ih=>rw[tq h,vf,ih];show u/10*10+((UInt8.ofNat (48+u%10)).toNat-48)=u;rw[ma (by omega)];omega
theorem mS (u:Nat):(decDigits u).all kW=true:=by
 induction u using rC with
 |h1 u h=>rw[sX h];simp only[List.all_cons,List.all_nil,Bool.and_true];unfold kW;rw[ma h];simp;omega
 |h2 u h ih=>rw[tq h,List.all_append,ih];simp only[List.all_cons,List.all_nil,Bool.and_true,Bool.true_and];unfold kW;rw[ma (by omega)];simp;omega
theorem pF (u:Nat):decDigits u≠[]:=by
 by_cases h:u<10
 ·rw[sX h];simp
 ·rw[tq (by omega)];simp
theorem pQ (u:Nat):∀ k,u<10^k→1≤k→(decDigits u).length≤k:=by
 induction u using rC with
 |h1 u h=>intro k _ hk;rw[sX h];simpa using hk
 |h2 u h ih=>
  intro k hk h1
  match k,h1 with
  |1,_=>omega
  |k+2,_=>
   rw[tq h,List.length_append]
   have:=ih (k+1) (by rw[Nat.pow_succ] at hk;omega) (by omega)
   simp;omega
theorem wO (n:Int) (h:-9223372036854775808≤n∧n≤9223372036854775807):1≤(itoa n).length∧(itoa n).length≤20:=by
 unfold itoa
 by_cases hn:n<0
 ·rw[if_pos hn]
  have:=pQ n.natAbs 19 (by omega) (by omega)
  simp;omega
 ·rw[if_neg hn]
  have:=pQ n.toNat 19 (by omega) (by omega)
  have:=List.length_pos_iff.2 (pF n.toNat)
  omega
theorem wj (n:Int) (h:-9223372036854775808≤n∧n≤9223372036854775807):dE (itoa n)=(n,0):=by
 unfold itoa
 by_cases hn:n<0
 ·rw[if_pos hn]
  unfold dE
  simp only[List.head?_cons,↓reduceIte,List.drop_succ_cons,List.drop_zero]
  rw[if_neg (by rw[mS];simp[pF]),v8,if_pos (by omega)]
  simp;omega
 ·rw[if_neg hn]
  have h45:¬ (decDigits n.toNat).head?=some 45:=by
   intro e
   have h1:=mS n.toNat
   cases hd:decDigits n.toNat with
   |nil=>exact pF _ hd
   |cons b r=>
    rw[hd] at e h1
    simp only[List.head?_cons,Option.some.injEq] at e
    subst e
    rw[List.all_cons,Bool.and_eq_true] at h1
    exact absurd h1.1 (by decide)
  unfold dE
  simp only
  rw[if_neg h45,if_neg h45,if_neg (by rw[mS];simp[pF]),v8,if_pos (by omega)]
  simp;omega
theorem gh (c:UInt8):∀ (l cur:List UInt8),(br c cur l).length=l.count c+1
 |[],cur=>rfl
 |b::l,cur=>by
  unfold br
  by_cases h:b=c
  ·rw[if_pos h,List.length_cons,gh c l [],h,List.count_cons_self]
  ·rw[if_neg h,gh c l _,List.count_cons_of_ne (fun e=>h e)]
theorem gj (c:UInt8):∀ (l cur r:List UInt8),br c cur (l++c::r)=br c cur l++br c [] r
 |[],cur,r=>by simp[br]
 |b::l,cur,r=>by
  rw[List.cons_append]
  have e1:br c cur (b::(l++c::r))=if b=c then cur::br c [] (l++c::r) else br c (cur++[b]) (l++c::r):=rfl
  have e2:br c cur (b::l)=if b=c then cur::br c [] l else br c (cur++[b]) l:=rfl
  rw[e1,e2]
  by_cases h:b=c
  ·rw[if_pos h,if_pos h,gj c l [] r];rfl
  ·rw[if_neg h,if_neg h,gj c l _ r]
theorem uH (c:UInt8) (m:List UInt8):trimSuffix (m++[c]) [c]=m:=by
 unfold trimSuffix hasSuffix
 have:([c]:List UInt8).isSuffixOf (m++[c])=true:=List.isSuffixOf_iff_suffix.2 ⟨m,rfl⟩
 rw[if_pos this]
 simp
theorem uA {c:UInt8} {l:List UInt8} (h:l.getLast?≠some c):trimSuffix l [c]=l:=by
 unfold trimSuffix hasSuffix
 rw[if_neg]
 intro e
 obtain⟨m,rfl⟩:=List.isSuffixOf_iff_suffix.1 e
 exact h (by simp)
theorem fL (m:List UInt8):bc (m++[10])=br 10 [] m:=by
 unfold bc
 rw[if_neg (by simp),uH]
theorem lA {l:List UInt8} (hne:l≠[]) (h:l.getLast?≠some 10):bc l=br 10 [] l:=by
 unfold bc
 rw[if_neg hne,uA h]
theorem mU (l:List UInt8) (c:UInt8):l=[]∨(∃ m,l=m++[c])∨(l≠[]∧l.getLast?≠some c):=by
 by_cases h:l=[]
 ·exact .inl h
 ·by_cases h2:l.getLast?=some c
  ·exact .inr (.inl ⟨_,(List.getLast?_eq_some_iff.1 h2).choose_spec⟩)
  ·exact .inr (.inr ⟨h,h2⟩)
theorem tW (s t:List UInt8):bc (s++10::t)=bc (s++[10])++bc t:=by
 rw[fL]
 rcases mU t 10 with rfl|⟨m,rfl⟩|⟨h1,h2⟩
 ·rw[fL];simp[bc]
 ·rw[fL,show s++10::(m++[10])=(s++10::m)++[10] by simp,fL,gj]
 ·have hl:(s++10::t).getLast?=t.getLast?:=by
   rw[show s++10::t=(s++[10])++t by simp,List.getLast?_append]
   cases ht:t.getLast? with
   |none=>exact absurd (List.getLast?_eq_none_iff.1 ht) h1
   |some x=>rfl
  rw[lA h1 h2,lA (by simp) (by rw[hl];exact h2),gj]
theorem tB (l:List UInt8):(bc l).length=l.count 10+(if l≠[]∧l.getLast?≠some 10 then 1 else 0):=by
 rcases mU l 10 with rfl|⟨m,rfl⟩|⟨h1,h2⟩
 ·rfl
 ·rw[fL,gh,if_neg (by simp),List.count_append];simp
 ·rw[lA h1 h2,gh,if_pos ⟨h1,h2⟩]
theorem iN {b:UInt8} (hb:lq b=true):∀ (s cur t:List UInt8),bM cur (s++b::t)=bM cur s++bM [] t
 |[],cur,t=>by
  rw[List.nil_append,bM,bM,if_pos hb]
  by_cases h:cur=[]
  ·rw[if_pos h,if_pos h];rfl
  ·rw[if_neg h,if_neg h];rfl
 |x::s,cur,t=>by
  rw[List.cons_append,bM,bM]
  by_cases hx:lq x=true
  ·rw[if_pos hx,if_pos hx,iN hb s [] t]
   by_cases h:cur=[]
   ·rw[if_pos h,if_pos h]
   ·rw[if_neg h,if_neg h];rfl
  ·rw[if_neg hx,if_neg hx,iN hb s _ t]
theorem tY {b:UInt8} (hb:lq b=true) (s t:List UInt8):bx (s++b::t)=bx s++bx t:=iN hb s [] t
end Go.Proofs.YtpbmihpjgjbndaaGreatDoor
