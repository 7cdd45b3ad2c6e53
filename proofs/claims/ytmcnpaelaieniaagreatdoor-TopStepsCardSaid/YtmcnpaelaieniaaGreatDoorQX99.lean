import Derived.Test.YtmcnpaelaieniaaGreatDoorQX60
import Derived.Lib.SpaceUEq
import Derived.Lib.FieldsP
import Derived.Lib.SplitLaws
import Derived.Lib.ParseIntBCases
import Derived.Lib.SlTrimSet
import Derived.Test.YtmcnpaelaieniaaGreatDoorQB
import Derived.Laws.Concat
import Derived.Laws.Strings
import Derived.Laws.Strings2
import Derived.Laws.Slices
import Derived.Lib.ItoaNum
/- A part of the proof; see NOTES.md. -/
set_option linter.unusedVariables false
set_option linter.unusedSimpArgs false
namespace Go.Proofs.YtmcnpaelaieniaaGreatDoor
open Go.RowKit
theorem ux.fall{N:aO}{left left':LI}{n:Nat}{pos:LN}(h:ux N left n pos)(hm:∀ i,0<left'.getD i 0->0<left.getD i 0):ux N left' n pos:=by
 refine⟨h.len,λ v q hq=>⟨(h.used v q hq).1,λ j e hj he=>?_⟩⟩;have h1:=(h.used v q hq).2 j e hj he;unfold fS at h1 ⊢;have h2:=of_decide_eq_false h1;exact HU λ hp=>h2 (hm e hp)
theorem ux.start(N:aO)(left:LI)(n:Nat):ux N left n (List.replicate (n+1) 0):=by
 refine⟨by simp,λ v q hq=>?_⟩;rw[GU] at hq;split at hq
 ·obtain rfl:=G4 hq;exact⟨GI _,λ j e hj=>absurd hj (by omega)⟩
 ·cases hq
theorem zr{N:aO}(hR:N.Right){w:Wk}(h:w.OK N)(hp:bF w.left<w.left.length)(i:Nat):(0<(ve N w).left.getD i 0->0<w.left.getD i 0)/\(ve N w).left.length=w.left.length:=by
 obtain⟨_,_,hmp,hP,hme⟩:=ma hR h hp
 have hW:(e7 N w).2.1.Nodup/\∀ i∈(e7 N w).2.1,i<w.left.length:=by
  have hfl:=h.flow.len
  rcases hP with ⟨_,_,h⟩|⟨_,_,h⟩|⟨_,v,h⟩<;>exact⟨h.nodup,λ i hi=>by obtain⟨r,hr,_⟩:=h.room i hi;have:=(GC.1 hr).1;omega⟩
 have e:(ve N w).left=gK (-(e7 N w).2.2) (e7 N w).2.1 w.left:=rfl;refine⟨λ hi=>?_,by rw[e,i7]⟩;rw[e,nu hW.1 hW.2] at hi;split at hi<;>omega
theorem vC{l:LI}{j:Nat}{x:Int}(hj:j<bF l)(hx:l[j]?=some x):fS x=false:=by
 have:=IP hj;rw[(GC.1 hx).2] at this
 simpa using this
theorem zy{l m:LI}(hlen:m.length=l.length)(hm:∀ i,0<m.getD i 0->0<l.getD i 0){k:Nat}(h:∀ j x,j<k->l[j]?=some x->fS x=false):∀ j x,j<k->m[j]?=some x->fS x=false:=by
 intro j x hj hx;have hjl:j<l.length:=by have:=(GC.1 hx).1;omega
 have h1:=h j _ hj (Gy hjl);unfold fS at h1 ⊢;have h2:=of_decide_eq_false h1;refine HU λ hp=>h2 ?_;have h3:=hm j (by rw[GD,hx];exact hp);rw[GD,Gy hjl] at h3;exact h3
def jg(N:aO)(w:Wk):List (Int×LN×Int):=iS N w.size w
theorem tY{N:aO}(hR:N.Right){w:Wk}(h:w.OK N)(hp:bF w.left<w.left.length):jg N w=e7 N w::jg N (ve N w):=by
 have ha:=ma hR h hp;have hs:0<w.size:=by omega
 obtain⟨k,hk⟩:∃ k,w.size=k+1:=⟨w.size-1,by omega⟩;unfold jg;rw[hk];rw[show iS N (k+1) w=if bF w.left<w.left.length then e7 N w::iS N k (ve N w) else [] from rfl,if_pos hp,pk hR k (ve N w).size _ ha.1 (by omega) (GN _)]
theorem tD{N:aO}{w:Wk}(hp:¬ bF w.left<w.left.length):jg N w=[]:=by
 unfold jg
 cases w.size with
 |zero=>rfl
 |succ k=>exact if_neg hp
section
variable {X:Cx}
theorem aF.mid2{A A1 A2 R I:Heap}(ix jx:LN)(h1:Proofs.YtmcnpaelaieniaaGreatDoor.bT A ix=some A1)(h2:Proofs.YtmcnpaelaieniaaGreatDoor.bT A jx=some A2)(hn:(ix++jx).Nodup):aF X (A++(R++I)) ((A1++R)++(I++A2)):=by
 have:=aF.mid (X:=X) (R:=R++I) ix jx h1 h2 hn
 simpa [Hd] using this
theorem aF.ret2{A B R I:Heap}:aF X ((A++R)++(I++B)) ((A++B)++(R++I)):=aF.perm (by
 rw[Hd,Hd,<- Hd R I B];exact Ix A Iy)
theorem aF.give{A R I:Heap}{c:aR}:aF X (c::(A++(R++I))) (A++(R++(I++[c]))):=aF.perm (by
 have h:(A++(R++I))++[c]=A++(R++(I++[c])):=by simp[Hd]
 rw[<- h];exact (Iy (l₁:=[c]) (l₂:=A++(R++I))))
end
open Go.Lib
def oL(b:UInt8):Bool:=b.toNat==32||b.toNat==9||b.toNat==13
def gW(r:Nat):Bool:=r==32||r==9||r==13
def b9(cur:LU):LU->List (LU)
 |[]=>if cur=[] then [] else [cur]
 |b::l=>if oL b then (if cur=[] then b9 [] l else cur::b9 [] l) else b9 (cur++[b]) l
def bw(l:LU):List (LU):=b9 [] l
theorem jZ:∀ (t cur r:LU),(∀ b∈t,oL b=false)->b9 cur (t++r)=b9 (cur++t) r
 |[],cur,r,_=>by simp
 |b::t,cur,r,h=>by
  rw[Hv,b9,if_neg (by rw[h b (by simp)];decide),jZ t (cur++[b]) r (λ x hx=>h x (by simp[hx])),Hd];rfl
theorem vk(n b0 b1 b2 b3:Nat)(hn:1<=n):1<=(decodeN n b0 b1 b2 b3).2/\(decodeN n b0 b1 b2 b3).2<=n/\(gW (decodeN n b0 b1 b2 b3).1=true->(decodeN n b0 b1 b2 b3).2=1/\gW b0=true)/\
 (gW (decodeN n b0 b1 b2 b3).1=false->gW b0=false/\(2<=(decodeN n b0 b1 b2 b3).2->128<=b1)/\(3<=(decodeN n b0 b1 b2 b3).2->128<=b2)/\(4<=(decodeN n b0 b1 b2 b3).2->128<=b3))/\(decodeN n b0 b1 b2 b3).2<=4:=by
 have hle:=decodeN_le_n' n b0 b1 b2 b3 hn;obtain⟨c2,c3,c4,c5⟩:=decodeN_conts n b0 b1 b2 b3;have key:∀ r:Nat,gW r=true↔(r=32\/r=9\/r=13):=λ r=>by simp[gW,or_assoc]
 have key2:∀ r:Nat,gW r=false↔¬ (r=32\/r=9\/r=13):=λ r=>by rw[<- key];simp
 have h1:1<=(decodeN n b0 b1 b2 b3).2:=by
  rcases decodeN_cases n b0 b1 b2 b3 with ⟨c,e⟩|⟨_,_,_,_,e⟩|⟨_,_,_,_,_,e⟩|⟨_,e⟩|e<;>rw[e]<;>simp
 refine⟨h1,hle,λ h=>?_,λ h=>⟨?_,λ k=>?_,λ k=>?_,λ k=>?_⟩,c5⟩
 ·rw[key] at h ⊢
  rcases decodeN_cases n b0 b1 b2 b3 with ⟨c,e⟩|⟨_,_,_,_,e⟩|⟨_,_,_,_,_,e⟩|⟨c,e⟩|e
  ·rw[e] at h ⊢;exact⟨rfl,h⟩
  ·rw[e] at h;dsimp only at h;omega
  ·rw[e] at h;dsimp only at h;omega
  ·omega
  ·rw[e] at h;dsimp only at h;omega
 ·rw[key2] at h ⊢
  rcases decodeN_cases n b0 b1 b2 b3 with ⟨c,e⟩|⟨c,_,_,_,e⟩|⟨c,_,_,_,_,e⟩|⟨c,e⟩|e
  ·rw[e] at h;exact h
  ·omega
  ·omega
  ·intro hb;have:decodeN n b0 b1 b2 b3=(b0,1):=by unfold decodeN;rw[if_pos (by omega)]
   rw[this] at e;simp at e
  ·intro hb;have:decodeN n b0 b1 b2 b3=(b0,1):=by unfold decodeN;rw[if_pos (by omega)]
   rw[this] at e;simp only[Hw] at e;omega
 ·have:=(c2 k).1;omega
 ·have:=(c3 k).1;omega
 ·have:=(c4 k).1;omega
theorem rr(s:ByteArray)(i:Nat)(h:i<s.size):s.data.toList[i]?=some (s.get! i):=by
 obtain⟨⟨l⟩⟩:=s;have h':i<l.length:=h;show l[i]?=_;rw[Gy h'];simp only[ByteArray.get!,GA];show l[i]=l.toArray[i]!;rw[getElem!_pos l.toArray i (by simpa using h')];simp
theorem uw(b:UInt8):oL b=gW b.toNat:=rfl
theorem yq(s:ByteArray)(i:Nat)(h:i<s.size):1<=(Utf8.decode s i).2/\i+(Utf8.decode s i).2<=s.size/\
 (gW (Utf8.decode s i).1=true->(Utf8.decode s i).2=1/\∃ b,s.data.toList[i]?=some b/\oL b=true)/\
 (gW (Utf8.decode s i).1=false->∀ b∈(s.data.toList.drop i).take (Utf8.decode s i).2,oL b=false):=by
 rw[decode_at];obtain⟨h1,h2,h3,h4,h5⟩:=vk (s.size-i) (s.get! i).toNat (s.get! (i+1)).toNat (s.get! (i+2)).toNat (s.get! (i+3)).toNat (by omega);refine⟨h1,by omega,λ hs=>⟨(h3 hs).1,_,rr s i h,by rw[uw];exact (h3 hs).2⟩,λ hs b hb=>?_⟩;obtain⟨g0,g1,g2,g3⟩:=h4 hs;obtain⟨j,hj,e⟩:=IH hb;rw[G2,HG] at hj;rw[IU,List.getElem_drop] at e;have hsz:s.data.toList.length=s.size:=(size_eq s).symm;have hk:s.data.toList[i+j]?=some b:=by rw[Gy (by omega),e]
 have hg:=rr s (i+j) (by omega);rw[hg] at hk;obtain rfl:=G4 hk;have key2:∀ r:Nat,128<=r->gW r=false:=λ r hr=>by simp[gW];omega
 rw[uw]
 match j,hj with
 |0,_=>exact g0
 |1,hj=>exact key2 _ (g1 (by omega))
 |2,hj=>exact key2 _ (g2 (by omega))
 |3,hj=>exact key2 _ (g3 (by omega))
 |j+4,hj=>omega
def kq(s:ByteArray)(x:Nat×Nat):LU:=(s.extract x.1 x.2).data.toList
theorem ya(s:ByteArray):∀ (f pos:Nat) (st:Option Nat) (acc:List (Nat×Nat)),s.size<=pos+f->pos<=s.size->(∀ a,st=some a->a<pos)->
 (closeSpans s (spansFromP gW s f pos st acc)).map (kq s)=acc.map (kq s)++b9 (openPiece s.data.toList st pos) (s.data.toList.drop pos):=by
 have hsz:s.data.toList.length=s.size:=(size_eq s).symm
 have fin:∀ (f pos:Nat) (st:Option Nat) (acc:List (Nat×Nat)),pos=s.size->(∀ a,st=some a->a<pos)->
  (closeSpans s (spansFromP gW s f pos st acc)).map (kq s)=acc.map (kq s)++b9 (openPiece s.data.toList st pos) (s.data.toList.drop pos):=by
  intro f pos st acc hp hst;rw[spansFromP_end gW s f pos st acc (by omega),List.drop_eq_nil_of_le (by omega)]
  cases st with
  |none=>simp[closeSpans,b9,openPiece]
  |some a=>
   have hlt:=hst a rfl;have hne:pieceU s.data.toList a pos≠[]:=pieceU_ne _ _ _ hlt (by omega);have hpc:kq s (a,s.size)=pieceU s.data.toList a pos:=by unfold kq pieceU;rw[extract_eq,hp]
   simp only[closeSpans,b9,openPiece,hne,↓reduceIte,G5,GM,HC,hpc]
 intro f
 induction f with
 |zero=>exact λ pos st acc h1 h2 h3=>fin 0 pos st acc (by omega) h3
 |succ f ih=>
  intro pos st acc h1 h2 h3;by_cases hlt:pos<s.size
  ·obtain⟨d1,d2,d3,d4⟩:=yq s pos hlt
   have hsplit:s.data.toList.drop pos=(s.data.toList.drop pos).take (Utf8.decode s pos).2++s.data.toList.drop (pos+(Utf8.decode s pos).2):=by
    rw[<- List.drop_drop,HD]
   unfold spansFromP;rw[if_pos hlt]
   cases hs:gW (Utf8.decode s pos).1 with
   |true=>
    obtain⟨e1,b,hb,hbs⟩:=d3 hs
    have hdrop:s.data.toList.drop pos=b::s.data.toList.drop (pos+1):=by
     obtain⟨hl,e⟩:=GC.1 hb;rw[Hm hl,e]
    rw[if_pos rfl,hdrop]
    cases st with
    |none=>
     simp only;rw[ih _ none acc (by omega) (by omega) (λ a h=>by cases h),e1];simp[openPiece,b9,hbs]
    |some a=>
     have hla:=h3 a rfl;have hne:pieceU s.data.toList a pos≠[]:=pieceU_ne _ _ _ hla (by omega);simp only;rw[ih _ none _ (by omega) (by omega) (λ a h=>by cases h),e1];have hpc:kq s (a,pos)=pieceU s.data.toList a pos:=by unfold kq pieceU;rw[extract_eq]
     simp only[openPiece,b9,hbs,↓reduceIte,hne,G5,GM,HC,Hd,List.singleton_append,hpc]
   |false=>
    have hall:=d4 hs;rw[if_neg (by decide)]
    have hw:∀ cur,b9 cur (s.data.toList.drop pos)=b9 (cur++(s.data.toList.drop pos).take (Utf8.decode s pos).2) (s.data.toList.drop (pos+(Utf8.decode s pos).2)):=by
     intro cur
     conv=>lhs;rw[hsplit]
     exact jZ _ _ _ hall
    cases st with
    |none=>
     simp only;rw[ih _ (some pos) acc (by omega) (by omega) (λ a h=>by obtain rfl:=G4 h;omega),hw]
     congr 2
     show pieceU _ _ _=[]++_;unfold pieceU;rw[HF,Hi]
    |some a=>
     have hla:=h3 a rfl;simp only;rw[ih _ (some a) acc (by omega) (by omega) (λ a' h=>by obtain rfl:=G4 h;omega),hw]
     congr 2
     exact (pieceU_grow _ _ _ _ (by omega)).symm
  ·exact fin (f+1) pos st acc (by omega) h3
theorem qH(s:ByteArray):(goFieldsP gW s).map (·.data.toList)=bw s.data.toList:=by
 unfold goFieldsP spansOfP bw;rw[HZ];have:=ya s s.size 0 none [] (by omega) (by omega) (λ a h=>by cases h);rw[HC,HF,List.drop_zero] at this;exact this
def bY(c:UInt8)(cur:LU):LU->List (LU)
 |[]=>[cur]
 |b::l=>if b=c then cur::bY c [] l else bY c (cur++[b]) l
def aP(l:LU):List (LU):=if l=[] then [] else bY 10 [] (trimSuffix l [10])
theorem jY(c:UInt8):∀ (l cur:LU),(∀ b∈l,b≠c)->bY c cur l=[cur++l]
 |[],cur,_=>by simp[bY]
 |b::l,cur,h=>by rw[bY,if_neg (h b (by simp)),jY c l _ (λ x hx=>h x (by simp[hx])),Hd];rfl
theorem mS(c:UInt8):∀ (l cur r:LU),(∀ b∈l,b≠c)->bY c cur (l++c::r)=(cur++l)::bY c [] r
 |[],cur,r,_=>by simp[bY]
 |b::l,cur,r,h=>by rw[Hv,bY,if_neg (h b (by simp)),mS c l _ r (λ x hx=>h x (by simp[hx])),Hd];rfl
theorem qW(c:UInt8):∀ (k:Nat) (s:ByteArray),countB s ⟨#[c]⟩=k->(splitB ⟨#[c]⟩ 0 k s).map (·.data.toList)=bY c [] s.data.toList
 |k,s,hk=>by
  rcases indexB_cases s ⟨#[c]⟩ with h|⟨i,h,hi⟩
  ·have h':indexByte s.data.toList c=-1:=by rw[← index_one];exact h
   rw[splitB_miss _ _ _ _ h,jY c _ _ (λ b hb e=>by
    obtain⟨j,hj,e2⟩:=IH hb;exact indexByte_none h' j (by rw[Gy hj,e2,e]))]
   simp
  ·have h':indexByte s.data.toList c=i:=by rw[← index_one];exact h
   obtain⟨h1,h2⟩:=indexByte_some h';have hk2:=countB_hit s ⟨#[c]⟩ i (GN 1) h;have hsz1:(⟨#[c]⟩:ByteArray).size=1:=rfl;rw[hsz1] at hk2;obtain⟨k',rfl⟩:∃ k',k=k'+1:=⟨countB (s.extract (i+1) s.size) ⟨#[c]⟩,by omega⟩;have ih:=qW c k' (s.extract (i+1) s.size) (by omega);have hl:i<s.data.toList.length:=(GC.1 h1).1
   have hdrop:s.data.toList=s.data.toList.take i++c::s.data.toList.drop (i+1):=by
    have e:s.data.toList.drop i=c::s.data.toList.drop (i+1):=by
     rw[Hm hl,(GC.1 h1).2]
    rw[<- e,HD]
   rw[splitB_hit _ _ _ _ i h,hsz1,GM,ih,extract_to_end]
   conv=>rhs;rw[hdrop]
   rw[mS c _ _ _ (λ b hb e=>by
    obtain⟨j,hj,e2⟩:=IH hb;rw[G2] at hj;rw[IU] at e2;exact h2 j (by omega) (by rw[Gy (by omega),e2,e]))]
   rw[HF,extract_eq];simp
def nM(b:UInt8):Bool:=decide (48<=b.toNat/\b.toNat<=57)
def gX(acc:Nat)(l:LU):Nat:=l.foldl (λ n b=>n*10+(b.toNat-48)) acc
def dp(l:LU):Int×Int:=
 let neg:=l.head?=some 45
 let d:=if neg then l.drop 1 else l
 if d=[]\/¬ d.all nM then (0,2) else
 if neg then (if gX 0 d<=9223372036854775808 then (-(gX 0 d:Int),0) else (0,3))
 else (if gX 0 d<=9223372036854775807 then ((gX 0 d:Int),0) else (0,3))
theorem wH:∀ (l:LU) (acc:Nat),acc<=gX acc l
 |[],_=>GN _
 |b::l,acc=>by
  have:=wH l (acc*10+(b.toNat-48));show acc<=gX (acc*10+(b.toNat-48)) l;omega
theorem qQ:∀ (l:LU) (acc:Nat),acc<=18446744073709551615->l.all nM=true->parseUintM 18446744073709551615 acc l=if gX acc l<=18446744073709551615 then .ok (gX acc l) else .range
 |[],acc,h,_=>by rw[if_pos (by exact h)];rfl
 |b::l,acc,h,hd=>by
  rw[IC,He] at hd;have hb:48<=b.toNat/\b.toNat<=57:=by simpa [nM] using hd.1
  have hge:=wH l (acc*10+(b.toNat-48));have hv:gX acc (b::l)=gX (acc*10+(b.toNat-48)) l:=rfl;unfold parseUintM;rw[if_pos hb,hv];by_cases h1:1844674407370955162<=acc
  ·rw[if_pos h1,if_neg (by omega)]
  ·rw[if_neg h1];by_cases h2:18446744073709551615<acc*10+(b.toNat-48)
   ·rw[if_pos h2,if_neg (by omega)]
   ·rw[if_neg h2];exact qQ l _ (by omega) hd.2
theorem zj(cs:LU):∀ l:LU,trimS l cs=[]↔∀ b∈l,cs.contains b=true:=by
 have hd:∀ l:LU,l.dropWhile (cs.contains ·)=[]↔∀ b∈l,cs.contains b=true:=by
  intro l
  induction l with
  |nil=>simp
  |cons b l ih=>
   rw[I6]
   cases hb:cs.contains b with
   |true=>rw[if_pos rfl,ih];simp only[GL,forall_eq_or_imp,hb,true_and]
   |false=>
    rw[if_neg (by decide)];exact⟨λ h=>by simp at h,λ h=>by rw[h b (by simp)] at hb;cases hb⟩
 intro l;unfold trimS trimLeftS trimRightS;rw[hd]
 constructor
 ·intro h
  have:l.reverse.dropWhile (cs.contains ·)=[]:=by
   cases hr:l.reverse.dropWhile (cs.contains ·) with
   |nil=>rfl
   |cons x r=>
    have h1:=h x (by rw[hr];simp);have h2:=List.head?_dropWhile_not (cs.contains ·) l.reverse;rw[hr] at h2;simp only[Jb] at h2;rw[h1] at h2;simp at h2
  intro b hb;exact (hd l.reverse).1 this b (by simpa using hb)
 ·intro h b hb
  exact h b (by
   have:=List.mem_reverse.1 hb
   simpa using (List.dropWhile_sublist (cs.contains ·)).subset this)
theorem pB(b:UInt8):([48,49,50,51,52,53,54,55,56,57]:LU).contains b=nM b:=by
 have key:∀ i:Fin 256,([48,49,50,51,52,53,54,55,56,57]:LU).contains (UInt8.ofNat i.val)=nM (UInt8.ofNat i.val):=by decide+kernel
 have:=key ⟨b.toNat,b.toNat_lt⟩
 simpa using this
theorem E4(l:LU)(d:LU)(hd:d=trimPrefix l [45]):
 (d=[]\/trimS d [48,49,50,51,52,53,54,55,56,57]≠[]->dp l=(0,2))/\
 (¬ (d=[]\/trimS d [48,49,50,51,52,53,54,55,56,57]≠[])->(∃ v,parseIntB 64 l=.ok v/\dp l=(v,0))\/(parseIntB 64 l=.range/\dp l=(0,3))):=by
 have hpre:d=if l.head?=some 45 then l.drop 1 else l:=by
  rw[hd];unfold trimPrefix hasPrefix
  cases l with
  |nil=>simp
  |cons b l=>
   by_cases hb:b=45
   ·subst hb;simp[List.isPrefixOf]
   ·have:¬ (45:UInt8)=b:=λ e=>hb e.symm;simp[List.isPrefixOf,hb,this]
 have htr:trimS d [48,49,50,51,52,53,54,55,56,57]≠[]↔¬ d.all nM=true:=by
  rw[ne_eq,zj];simp only[pB,I2]
 rw[htr]
 constructor
 ·intro h;unfold dp;simp only;rw[<- hpre,if_pos h]
 ·intro h;obtain⟨h1,h2⟩:=not_or.1 h;have h2:=GQ.1 h2
  have hN:dp l=if l.head?=some 45 then (if gX 0 d<=9223372036854775808 then (-(gX 0 d:Int),0) else (0,3)) else (if gX 0 d<=9223372036854775807 then ((gX 0 d:Int),0) else (0,3)):=by
   unfold dp;simp only;rw[<- hpre,if_neg h]
  have hU:parseUintB 64 d=if gX 0 d<=18446744073709551615 then .ok (gX 0 d) else .range:=by
   unfold parseUintB;rw[if_neg h1];exact qQ d 0 (by omega) h2
  cases l with
  |nil=>rw[hpre] at h1;simp at h1
  |cons b r=>
   by_cases hb:b=45
   ·subst hb;have hdr:d=r:=by rw[hpre];rfl
    rw[if_pos (show (45::r).head?=some 45 from rfl)] at hN
    have hP:parseIntB 64 (45::r)=match parseUintB 64 r with
     |NumEnd.syntax=>NumEnd.syntax
     |.range=>.range
     |.ok u=>if 2^63<u then .range else .ok (-(u:Int)):=by
     unfold parseIntB;simp;rfl
    rw[hN,hP,<- hdr,hU];by_cases h3:gX 0 d<=18446744073709551615
    ·rw[if_pos h3];simp only;by_cases h4:gX 0 d<=9223372036854775808
     ·rw[if_neg (by omega),if_pos h4];exact .inl ⟨_,rfl,rfl⟩
     ·rw[if_pos (by omega),if_neg h4];exact .inr ⟨rfl,rfl⟩
    ·rw[if_neg h3,if_neg (by omega)];exact .inr ⟨rfl,rfl⟩
   ·have hdr:d=b::r:=by rw[hpre,if_neg (by simp[hb])]
    rw[if_neg (by simp[hb])] at hN;have hdig:nM b=true:=by rw[hdr] at h2;simp at h2;exact h2.1
    have hbn:48<=b.toNat/\b.toNat<=57:=by simpa [nM] using hdig
    have hP:parseIntB 64 (b::r)=match parseUintB 64 (b::r) with
     |NumEnd.syntax=>NumEnd.syntax
     |.range=>.range
     |.ok u=>if 2^63<=u then .range else .ok (u:Int):=by
     have n1:¬ b.toNat=45:=by omega
     have n2:¬ b.toNat=43:=by omega
     unfold parseIntB;simp[n1,n2];rfl
    rw[hN,hP,<- hdr,hU];by_cases h3:gX 0 d<=18446744073709551615
    ·rw[if_pos h3];simp only;by_cases h4:gX 0 d<=9223372036854775807
     ·rw[if_neg (by omega),if_pos h4];exact .inl ⟨_,rfl,rfl⟩
     ·rw[if_pos (by omega),if_neg h4];exact .inr ⟨rfl,rfl⟩
    ·rw[if_neg h3,if_neg (by omega)];exact .inr ⟨rfl,rfl⟩
def dK(l:LU):Value:=.string ⟨l.toArray⟩
theorem cP(l:LU):(⟨l.toArray⟩:ByteArray).size=l.length:=by show l.toArray.size=_;simp
theorem mG(l:LU):(⟨l.toArray⟩:ByteArray).toList=l:=by rw[ByteArray.toList_eq]
theorem dh(l m:LU):((⟨l.toArray⟩:ByteArray).toList==(⟨m.toArray⟩:ByteArray).toList)=dk (l=m):=by
 rw[mG,mG];by_cases h:l=m
 ·rw[aT h,h];simp
 ·rw[aZ h];simpa using h
section
variable {X:Cx} {E:Env} {H:Heap}
theorem gi{o:Oper}{t t':Nat}{x y:Operand}{l m:LU}(ho:o.op=.binOp .add t x y t')(hx:val E x=some (dK l))(hy:val E y=some (dK m))(h:l.length+m.length<=9223372036854775807):gq X o E H (dK (l++m)):=by
 intro a w hA hH;have h1:=run_string_add_sum (P:=Tryz.prog) (w:=w) ⟨l.toArray⟩ ⟨m.toArray⟩ (by rw[cP,cP];exact h)
 have e:(⟨l.toArray⟩:ByteArray)++⟨m.toArray⟩=⟨(l++m).toArray⟩:=by
  apply ByteArray.ext
  rw[ByteArray.data_append];simp
 rw[e] at h1;unfold dK at*;simp[execOp,ho,hA.val hx,hA.val hy,ox,h1,binOp]
theorem wT{o:Oper}{t t':Nat}{x y:Operand}{l m:LU}(ho:o.op=.binOp .eql t x y t')(hx:val E x=some (dK l))(hy:val E y=some (dK m)):gq X o E H (.bool (dk (l=m))):=by
 have h:gq X o E H (.bool ((⟨l.toArray⟩:ByteArray).toList==(⟨m.toArray⟩:ByteArray).toList)):=jp (by rw[ho];simp only[oI,hx,hy,dK];rfl);rw[dh] at h;exact h
theorem wZ{o:Oper}{t t':Nat}{x y:Operand}{l m:LU}(ho:o.op=.binOp .neq t x y t')(hx:val E x=some (dK l))(hy:val E y=some (dK m)):gq X o E H (.bool (dk (l≠m))):=by
 have h:gq X o E H (.bool (!((⟨l.toArray⟩:ByteArray).toList==(⟨m.toArray⟩:ByteArray).toList))):=jp (by rw[ho];simp only[oI,hx,hy,dK];rfl);rw[dh] at h
 have e:(!(dk (l=m)))=dk (l≠m):=by
  by_cases h:l=m
  ·rw[aT h,aZ (λ k=>k h)];rfl
  ·rw[aZ h,aT h];rfl
 rw[e] at h;exact h
theorem xC{o:Oper}{t s1 s2 i:Nat}{x ix:Operand}{l:LU}{b:UInt8}{k:IntKind}{z:Option Value}(ho:o.op=.index t x ix)(hx:val E x=some (dK l))(hi:val E ix=some (.int k (i:Int)))
 (ht:tab t=some ⟨.string,s1,s2,z⟩) (hb:l[i]?=some b):gq X o E H (.int .u8 (b.toNat:Int)):=by
 intro a w hA hH;have hlt:=(GC.1 hb).1;have hsz:=cP l
 have hg:(⟨l.toArray⟩:ByteArray)[i]?=some b:=by
  rw[getElem?_pos _ _ (by rw[hsz];exact hlt)];show some (l.toArray[i])=_;rw[<- hb,Gy hlt];simp
 unfold dK at hx;simp[execOp,ho,hA.val hx,hA.val hi,Instr.index,asIntOf,run_underlying (iC ht),hg]
theorem zR{o:Oper}{t s1 s2 i:Nat}{x lo:Operand}{l:LU}{k:IntKind}{z:Option Value}(ho:o.op=.slice t x (some lo) none none)(hx:val E x=some (dK l))(hlo:val E lo=some (.int k (i:Int)))
 (ht:tab t=some ⟨.string,s1,s2,z⟩) (hi:i<=l.length):gq X o E H (dK (l.drop i)):=by
 intro a w hA hH;have h1:=iC ht;have h2:=run_slice_string_l (P:=Tryz.prog) (w:=w) (t:=t) (s:=⟨l.toArray⟩) h1 k (i:Int) (by omega) (by rw[cP];omega);unfold dK at hx;simp[execOp,ho,hA.val hx,hA.val hlo,run_sliceAt_string w t _ _ _ _ h1,h2,dK];rw[Go.Lib.extract_eq,Hy (by rw[HG];simp[cP])]
end
theorem Fn.of_same{f:FuncId}{args:LV_}{H:Heap}{v:Value}{R:Value->Heap->Prop}(h:∀ w,Calls Tryz.prog f args.toArray w λ e w'=>e=.returned v/\w'=w)(hR:R v []):Fn f args [] H R:=λ w hw=>
 (h w).mono λ e w' ⟨he,hww⟩=>⟨v,[],he,(by subst hww;exact hw.mono (λ c hc=>by cases hc) List.Pairwise.nil),hR⟩
theorem kP{w w':World}{H:Heap}(hw:cS w [] w H)(hb:Below w.heap.size w w'):cS w [] w' []:=
 ⟨hb.os,hb.tape,hb.output,hb.size,λ k hk _=>hb.block k hk,λ c hc=>absurd hc GV,λ c hc=>absurd hc GV,List.Pairwise.nil⟩
theorem Fn.of_below{f:FuncId}{args:LV_}{H:Heap}{R:Value->Heap->Prop}(h:∀ w,cS w [] w H->Calls Tryz.prog f args.toArray w λ e w'=>∃ v,e=.returned v/\Below w.heap.size w w'/\R v []):Fn f args [] H R:=λ w hw=>
 (h w hw).mono λ e w' ⟨v,he,hb,hR⟩=>⟨v,[],he,kP hw hb,hR⟩
open Go.Lib
theorem ue{u:Nat}(h:u<10):decDigits u=[UInt8.ofNat (48+u)]:=by rw[decDigits,dif_pos h]
theorem wO{u:Nat}(h:10<=u):decDigits u=decDigits (u/10)++[UInt8.ofNat (48+u%10)]:=by rw[decDigits,dif_neg (by omega)]
theorem wh{P:Nat->Prop}(h1:∀ u,u<10->P u)(h2:∀ u,10<=u->P (u/10)->P u)(u:Nat):P u:=by
 induction u using Nat.strongRecOn with
 |_ u ih=>
  by_cases h:u<10
  ·exact h1 u h
  ·exact h2 u (by omega) (ih _ (by omega))
theorem Am(acc:Nat)(l m:LU):gX acc (l++m)=gX (gX acc l) m:=by unfold gX;rw[IT]
theorem oR{k:Nat}(h:k<10):(UInt8.ofNat (48+k)).toNat=48+k:=by
 rw[UInt8.toNat_ofNat'];omega
theorem AE(u:Nat):gX 0 (decDigits u)=u:=by
 induction u using wh with
 |h1 u h=>rw[ue h];show 0*10+((UInt8.ofNat (48+u)).toNat-48)=u;rw[oR h];omega
 |h2 u h ih=>rw[wO h,Am,ih];show u/10*10+((UInt8.ofNat (48+u%10)).toNat-48)=u;rw[oR (by omega)];omega
theorem sR(u:Nat):(decDigits u).all nM=true:=by
 induction u using wh with
 |h1 u h=>rw[ue h];simp only[IC,List.all_nil,Bool.and_true];unfold nM;rw[oR h];simp;omega
 |h2 u h ih=>rw[wO h,List.all_append,ih];simp only[IC,List.all_nil,Bool.and_true,Bool.true_and];unfold nM;rw[oR (by omega)];simp;omega
theorem uY(u:Nat):decDigits u≠[]:=by
 by_cases h:u<10
 ·rw[ue h];simp
 ·rw[wO (by omega)];simp
theorem u0(u:Nat):∀ k,u<10^k->1<=k->(decDigits u).length<=k:=by
 induction u using wh with
 |h1 u h=>intro k _ hk;rw[ue h];simpa using hk
 |h2 u h ih=>
  intro k hk h1
  match k,h1 with
  |1,_=>omega
  |k+2,_=>
   rw[wO h,GE];have:=ih (k+1) (by rw[Nat.pow_succ] at hk;omega) (by omega);simp;omega
theorem A9(n:Int)(h:-9223372036854775808<=n/\n<=9223372036854775807):1<=(itoa n).length/\(itoa n).length<=20:=by
 unfold itoa;by_cases hn:n<0
 ·rw[if_pos hn];have:=u0 n.natAbs 19 (by omega) (by omega);simp;omega
 ·rw[if_neg hn];have:=u0 n.toNat 19 (by omega) (by omega);have:=Hj.2 (uY n.toNat);omega
theorem qg(n:Int)(h:-9223372036854775808<=n/\n<=9223372036854775807):dp (itoa n)=(n,0):=by
 unfold itoa;by_cases hn:n<0
 ·rw[if_pos hn];unfold dp;simp only[Jb,↓reduceIte,List.drop_succ_cons,List.drop_zero];rw[if_neg (by rw[sR];simp[uY]),AE,if_pos (by omega)];simp;omega
 ·rw[if_neg hn]
  have h45:¬ (decDigits n.toNat).head?=some 45:=by
   intro e;have h1:=sR n.toNat
   cases hd:decDigits n.toNat with
   |nil=>exact uY _ hd
   |cons b r=>
    rw[hd] at e h1;simp only[Jb,GA] at e;subst e;rw[IC,He] at h1;exact absurd h1.1 (by decide)
  unfold dp;simp only;rw[if_neg h45,if_neg h45,if_neg (by rw[sR];simp[uY]),AE,if_pos (by omega)];simp;omega
theorem i5(c:UInt8):∀ (l cur:LU),(bY c cur l).length=l.count c+1
 |[],cur=>rfl
 |b::l,cur=>by
  unfold bY;by_cases h:b=c
  ·rw[if_pos h,GG,i5 c l [],h,List.count_cons_self]
  ·rw[if_neg h,i5 c l _,List.count_cons_of_ne (λ e=>h e)]
theorem iX(c:UInt8):∀ (l cur r:LU),bY c cur (l++c::r)=bY c cur l++bY c [] r
 |[],cur,r=>by simp[bY]
 |b::l,cur,r=>by
  rw[Hv];have e1:bY c cur (b::(l++c::r))=if b=c then cur::bY c [] (l++c::r) else bY c (cur++[b]) (l++c::r):=rfl
  have e2:bY c cur (b::l)=if b=c then cur::bY c [] l else bY c (cur++[b]) l:=rfl
  rw[e1,e2];by_cases h:b=c
  ·rw[if_pos h,if_pos h,iX c l [] r];rfl
  ·rw[if_neg h,if_neg h,iX c l _ r]
theorem yi(c:UInt8)(m:LU):trimSuffix (m++[c]) [c]=m:=by
 unfold trimSuffix hasSuffix;have:([c]:LU).isSuffixOf (m++[c])=true:=List.isSuffixOf_iff_suffix.2 ⟨m,rfl⟩;rw[if_pos this];simp
theorem xL{c:UInt8}{l:LU}(h:l.getLast?≠some c):trimSuffix l [c]=l:=by
 unfold trimSuffix hasSuffix;rw[if_neg];intro e;obtain⟨m,rfl⟩:=List.isSuffixOf_iff_suffix.1 e;exact h (by simp)
theorem ik(m:LU):aP (m++[10])=bY 10 [] m:=by
 unfold aP;rw[if_neg (by simp),yi]
theorem nO{l:LU}(hne:l≠[])(h:l.getLast?≠some 10):aP l=bY 10 [] l:=by
 unfold aP;rw[if_neg hne,xL h]
theorem o7(l:LU)(c:UInt8):l=[]\/(∃ m,l=m++[c])\/(l≠[]/\l.getLast?≠some c):=by
 by_cases h:l=[]
 ·exact .inl h
 ·by_cases h2:l.getLast?=some c
  ·exact .inr (.inl ⟨_,(List.getLast?_eq_some_iff.1 h2).choose_spec⟩)
  ·exact .inr (.inr ⟨h,h2⟩)
theorem yN(s t:LU):aP (s++10::t)=aP (s++[10])++aP t:=by
 rw[ik]
 rcases o7 t 10 with rfl|⟨m,rfl⟩|⟨h1,h2⟩
 ·rw[ik];simp[aP]
 ·rw[ik,show s++10::(m++[10])=(s++10::m)++[10] by simp,ik,iX]
 ·have hl:(s++10::t).getLast?=t.getLast?:=by
   rw[show s++10::t=(s++[10])++t by simp,Hl]
   cases ht:t.getLast? with
   |none=>exact absurd (List.getLast?_eq_none_iff.1 ht) h1
   |some x=>rfl
  rw[nO h1 h2,nO (by simp) (by rw[hl];exact h2),iX]
theorem x5(l:LU):(aP l).length=l.count 10+(if l≠[]/\l.getLast?≠some 10 then 1 else 0):=by
 rcases o7 l 10 with rfl|⟨m,rfl⟩|⟨h1,h2⟩
 ·rfl
 ·rw[ik,i5,if_neg (by simp),List.count_append];simp
 ·rw[nO h1 h2,i5,if_pos ⟨h1,h2⟩]
theorem kL{b:UInt8}(hb:oL b=true):∀ (s cur t:LU),b9 cur (s++b::t)=b9 cur s++b9 [] t
 |[],cur,t=>by
  rw[HF,b9,b9,if_pos hb];by_cases h:cur=[]
  ·rw[if_pos h,if_pos h];rfl
  ·rw[if_neg h,if_neg h];rfl
 |x::s,cur,t=>by
  rw[Hv,b9,b9];by_cases hx:oL x=true
  ·rw[if_pos hx,if_pos hx,kL hb s [] t];by_cases h:cur=[]
   ·rw[if_pos h,if_pos h]
   ·rw[if_neg h,if_neg h];rfl
  ·rw[if_neg hx,if_neg hx,kL hb s _ t]
theorem jr{b:UInt8}(hb:oL b=true)(s t:LU):bw (s++b::t)=bw s++bw t:=kL hb s [] t
end Go.Proofs.YtmcnpaelaieniaaGreatDoor
