
/- Covers: nodes that meet all edges. -/
import Derived.Test.YtdhenmmmkdhonaaRightN
import Derived.Test.YtdhenmmmkdhonaaQF
set_option linter.unusedVariables false
set_option linter.unusedSimpArgs false
namespace Go.Proofs.Ytdhenmmmkdhonaa
open Go.RowKit
theorem cwhere_fn (A : Option Addr) (c b o : Nat) (l : List Bool) (hA : l ≠ [] → A = some ⟨b, o, none⟩) (hl : l.length ≤ 100000) (is : Bool) :
    Fn 35 [.slice A l.length c,.bool is] [] [.seg b o (bools l)] fun v H'=>∃ A' c',v = .slice A' (whereK l is l.length).length c' ∧ H' = [.own v 3 1 (whereK l is l.length).length (ints (whereK l is l.length))]:=by
  refine Fn_of Try.func35 rfl rfl fun w0=>?_
  (repeat' (first | refine J_seq ?_ | refine J_skip ?_ | refine J_yes rfl ?_ | refine J_no rfl ?_))
  refine J_region ?_
  refine JL_all [] rfl ?_
  (repeat' (first | refine J_seq ?_ | refine J_skip ?_ | refine J_yes rfl ?_ | refine J_no rfl ?_))
  refine J_region ?_
  refine JL_all [] rfl ?_
  (repeat' (first | refine J_seq ?_ | refine J_skip ?_ | refine J_yes rfl ?_ | refine J_no rfl ?_))
  refine J_region ?_
  refine JL_all [] rfl ?_
  refine J_block ?_
  refine J_addnil 3 1 ?_
  refine J_loop (σ:=Nat × Option Addr × Nat) (fun s=>[(10,.int .i64 s.1),(9,.int .i64 l.length),(8,.slice A l.length c),(5,.slice s.2.1 (whereK l is s.1).length s.2.2),(1,.bool is)])
    (fun s=>[.own (.slice s.2.1 (whereK l is s.1).length s.2.2) 3 1 (whereK l is s.1).length (ints (whereK l is s.1)),.seg b o (bools l)]) (fun s=>s.1 ≤ l.length) (fun s=>l.length - s.1)
    (0,none,0) [0,1] ⟨rfl,rfl,rfl,rfl,rfl,trivial⟩ (by decide) rfl (Nat.zero_le _) ?_
  rintro ⟨k,A1,c1⟩ hk
  simp only at hk ⊢
  have hwl:=whereK_length l is k
  (repeat' (first | refine J_seq ?_ | refine J_skip ?_ | refine J_yes rfl ?_ | refine J_no rfl ?_))
  refine J_region ?_
  refine JL_all [] rfl ?_
  refine J_seq (J_dec rfl (fun hlt=>J_skip ?_) (fun hge=>J_exit ?_))
  · have hlt : k < l.length:=by omega
    obtain rfl:=hA (by rintro rfl; simp at hlt)
    obtain ⟨m,hm⟩ : ∃ m,l[k]? = some m:=⟨l[k],List.getElem?_eq_getElem hlt⟩
    have hws:=whereK_succ l is k
    refine J_seq (J_block ?_)
    (repeat' (first | refine J_seq ?_ | refine J_skip ?_ | refine J_yes rfl ?_ | refine J_no rfl ?_))
    refine J_region ?_
    refine JL_run [] rfl ?_
    refine JL_val [] (idx1 rfl rfl rfl rfl rfl hlt) rfl ?_
    refine JL_val [] (ldseg 1 rfl rfl rfl rfl (show (bools l)[k]? = some (.bool m) from bools_get hm)) rfl ?_
    refine JL_all [] rfl ?_
    by_cases hgo : 0 < k ∧ m = is
    · rw [if_pos ⟨hgo.1,by rw [hm,hgo.2]⟩] at hws
      (repeat' (first | refine J_seq ?_ | refine J_skip ?_ | refine J_yes rfl ?_ | refine J_no rfl ?_))
      refine J_region ?_
      refine JL_run [] rfl ?_
      refine JL_set 17 (v':=.bool true) rfl (congrArg Value.bool (cdec_yes (by omega))) ?_
      refine JL_run [2] rfl ?_
      refine JL_set 21 (v':=.bool true) rfl (congrArg Value.bool (by rw [hgo.2]; simp)) ?_
      refine JL_nil ?_
      refine J_yes rfl ?_
      refine J_region (JL_run [] rfl ?_)
      refine JL_lit rfl rfl rfl rfl rfl rfl rfl (fun _=>rfl) fun g2=>?_
      refine JL_appendS (n:=(whereK l is k).length) (m:=1) (off:=0) (news:=ints [(k : Int)]) 1 0 rfl rfl rfl rfl rfl rfl (by decide) rfl rfl (shows_blk g2 _ _ (0,0)) (fun _=>rfl) rfl rfl (by omega) (by omega) (fun _ _=>rfl) fun A2 c2=>?_
      rw [show (whereK l is k).length + 1 = (whereK l is (k + 1)).length by rw [hws]; simp,show ints (whereK l is k) ++ ints [(k : Int)] = ints (whereK l is (k + 1)) by rw [hws]; simp [ints]]
      refine JL_all [] rfl ?_
      (repeat' (first | refine J_seq ?_ | refine J_skip ?_ | refine J_yes rfl ?_ | refine J_no rfl ?_))
      refine J_region ?_
      refine JL_all [] rfl ?_
      refine ⟨(k + 1,A2,c2),[1,2],⟨?_,rfl,rfl,rfl,rfl,trivial⟩,by decide,rfl,by simp only; omega,by simp only; omega⟩
      show some (Value.int .i64 (IntKind.i64.wrap ((k : Int) + 1))) = _
      rw [w64 (by omega)]; rfl
    · rw [if_neg (fun h=>hgo ⟨h.1,by rw [hm] at h; simpa using h.2⟩),List.append_nil] at hws
      refine J_cut [(21,.bool false),(10,.int .i64 k),(9,.int .i64 l.length),(8,.slice (some ⟨b,o,none⟩) l.length c),(5,.slice A1 (whereK l is k).length c1),(1,.bool is)]
        [.own (.slice A1 (whereK l is k).length c1) 3 1 (whereK l is k).length (ints (whereK l is k)),.seg b o (bools l)] ?_ ?_
      · (repeat' (first | refine J_seq ?_ | refine J_skip ?_ | refine J_yes rfl ?_ | refine J_no rfl ?_))
        refine J_region ?_
        refine JL_run [] rfl ?_
        by_cases h0 : 0 < k
        · refine JL_set 17 (v':=.bool true) rfl (congrArg Value.bool (cdec_yes (by omega))) ?_
          refine JL_run [2] rfl ?_
          refine JL_set 21 (v':=.bool false) rfl (congrArg Value.bool (by have : m ≠ is:=fun e=>hgo ⟨h0,e⟩; simpa using this)) ?_
          refine JL_nil ?_
          exact ⟨[0,1],⟨rfl,rfl,rfl,rfl,rfl,rfl,trivial⟩,by decide,rfl⟩
        · refine JL_set 17 (v':=.bool false) rfl (congrArg Value.bool (cdec_no (by omega))) ?_
          refine JL_all [2] rfl ?_
          exact ⟨[0,1],⟨rfl,rfl,rfl,rfl,rfl,rfl,trivial⟩,by decide,rfl⟩
      · refine J_no rfl (J_skip ?_)
        (repeat' (first | refine J_seq ?_ | refine J_skip ?_ | refine J_yes rfl ?_ | refine J_no rfl ?_))
        refine J_region ?_
        refine JL_all [] rfl ?_
        refine ⟨(k + 1,A1,c1),[0,1],⟨?_,rfl,rfl,by simp only [hws]; rfl,rfl,trivial⟩,by decide,by simp only [hws]; rfl,by simp only; omega,by simp only; omega⟩
        show some (Value.int .i64 (IntKind.i64.wrap ((k : Int) + 1))) = _
        rw [w64 (by omega)]; rfl
  · have hk' : k = l.length:=by omega
    subst hk'
    (repeat' (first | refine J_seq ?_ | refine J_skip ?_ | refine J_yes rfl ?_ | refine J_no rfl ?_))
    refine J_region ?_
    refine JL_all [] rfl ?_
    refine J_drop [0] (by decide) rfl (J_ret ⟨_,rfl,A1,c1,rfl,rfl⟩)
structure IsSide (m : Int) (l : List Int) : Prop where
  rise : l.Pairwise (· < ·)
  rng : ∀ x ∈ l,1 ≤ x ∧ x ≤ m
theorem IsSide.snoc {m : Int} {l : List Int} {x : Int} : IsSide m (l ++ [x]) ↔ IsSide m l ∧ (∀ y ∈ l,y < x) ∧ 1 ≤ x ∧ x ≤ m:=by
  constructor
  · intro h
    obtain ⟨h1,_,h3⟩:=List.pairwise_append.1 h.rise
    have hx:=h.rng x (by simp)
    exact ⟨⟨h1,fun y hy=>h.rng y (by simp [hy])⟩,fun y hy=>h3 y hy x (by simp),hx.1,hx.2⟩
  · rintro ⟨h,h1,h2,h3⟩
    refine ⟨rise_app h.rise h1,fun y hy=>?_⟩
    rcases List.mem_append.1 hy with hy | hy
    · exact h.rng y hy
    · rw [List.mem_singleton.1 hy]; exact ⟨h2,h3⟩
theorem IsSide.pre {m : Int} {l r : List Int} (h : IsSide m (l ++ r)) : IsSide m l:=⟨(List.pairwise_append.1 h.rise).1,fun y hy=>h.rng y (by simp [hy])⟩
def lastS (l : List Int) (k : Nat) : Int:=((0 : Int) :: l)[k]?.getD 0
theorem lastS_succ {l : List Int} {k : Nat} {x : Int} (hx : l[k]? = some x) : lastS l (k + 1) = x:=by
  unfold lastS
  rw [List.getElem?_cons_succ,hx]; rfl
theorem take_last {l : List Int} {k : Nat} (hk : k < l.length) : l[k] ∈ l.take (k + 1):=by
  rw [List.take_add_one,List.getElem?_eq_getElem hk]
  exact List.mem_append_right _ (List.mem_singleton.2 rfl)
theorem lastS_ge {m : Int} {l : List Int} {k : Nat} (h : IsSide m (l.take k)) (hk : k ≤ l.length) : 0 ≤ lastS l k ∧ (lastS l k ≤ 0 ∨ lastS l k ∈ l.take k):=by
  cases k with
  | zero=>exact ⟨Int.le_refl _,.inl (Int.le_refl _)⟩
  | succ k =>
    rw [lastS_succ (List.getElem?_eq_getElem hk)]
    have:=h.rng _ (take_last hk)
    exact ⟨by omega,.inr (take_last hk)⟩
theorem lastS_most {m : Int} {l : List Int} {k : Nat} (h : IsSide m (l.take k)) (hk : k ≤ l.length) : ∀ y ∈ l.take k,y ≤ lastS l k:=by
  intro y hy
  cases k with
  | zero=>simp at hy
  | succ k =>
    have hx : l[k]? = some l[k]:=List.getElem?_eq_getElem hk
    rw [lastS_succ hx]
    have h':=h.rise
    rw [List.take_add_one,hx] at hy h'
    rcases List.mem_append.1 hy with hy | hy
    · have:=(List.pairwise_append.1 h').2.2 y hy l[k] (by simp); omega
    · have : y = l[k]:=by simpa using hy
      omega
def marksS (n : Nat) (l : List Int) : List Bool:=l.foldl (fun m x=>m.set x.toNat true) (List.replicate n false)
theorem marksS_app (n : Nat) (l : List Int) (x : Int) : marksS n (l ++ [x]) = (marksS n l).set x.toNat true:=by
  unfold marksS
  rw [List.foldl_append,List.foldl_cons,List.foldl_nil]
theorem marksS_from (n v : Nat) (hv : v < n) : ∀ (l : List Int) (m : List Bool),m.length = n → (∀ x ∈ l,0 ≤ x) → ((l.foldl (fun m x=>m.set x.toNat true) m)[v]? = some true ↔ m[v]? = some true ∨ (v : Int) ∈ l) ∧ (l.foldl (fun m x=>m.set x.toNat true) m).length = n
  | [],m,hm,_=>⟨by simp,hm⟩
  | x :: l,m,hm,h0=>by
    have hx:=h0 x (by simp)
    have ih:=marksS_from n v hv l (m.set x.toNat true) (by rw [List.length_set]; exact hm) fun y hy=>h0 y (by simp [hy])
    rw [List.foldl_cons]
    refine ⟨?_,ih.2⟩
    rw [ih.1]
    by_cases e : x.toNat = v
    · rw [e,List.getElem?_set_self (by omega)]
      exact ⟨fun _=>.inr (by simp; left; omega),fun _=>.inl rfl⟩
    · rw [List.getElem?_set_ne e,List.mem_cons]
      constructor
      · rintro (h | h)
        · exact .inl h
        · exact .inr (.inr h)
      · rintro (h | h | h)
        · exact .inl h
        · omega
        · exact .inr h
theorem marksS_get {n v : Nat} (hv : v < n) {l : List Int} (h0 : ∀ x ∈ l,0 ≤ x) : (marksS n l)[v]? = some true ↔ (v : Int) ∈ l:=by
  unfold marksS
  rw [(marksS_from n v hv l _ (by simp) h0).1,List.getElem?_replicate,if_pos hv]
  simp
theorem marksS_length {n : Nat} (l : List Int) : (marksS n l).length = n:=by
  unfold marksS
  have key : ∀ (l : List Int) (m : List Bool),m.length = n → (l.foldl (fun m x=>m.set x.toNat true) m).length = n:=by
    intro l
    induction l with
    | nil=>exact fun m h=>h
    | cons x l ih=>intro m h; rw [List.foldl_cons]; exact ih _ (by rw [List.length_set]; exact h)
  exact key l _ (by simp)
set_option maxHeartbeats 1000000 in
theorem marked_fn (A : Option Addr) (c b o : Nat) (l : List Int) (hA : l ≠ [] → A = some ⟨b, o, none⟩) (hl : l.length ≤ 100000) (m : Nat) (hm : m ≤ 200) :
    Fn 40 [.slice A l.length c,.int .i64 (m : Int)] [] [.seg b o (ints l)] fun v H'=>(IsSide m l ∧ ∃ g : Nat,v = .tuple #[.slice (some ⟨g,0,none⟩) (m + 1) (m + 1),.bool true] ∧ H' = [.own (.slice (some ⟨g,0,none⟩) (m + 1) (m + 1)) 4 1 (m + 1) (bools (marksS (m + 1) l))]) ∨
      (¬ IsSide m l ∧ v = .tuple #[.slice none 0 0,.bool false] ∧ H' = []):=by
  refine Fn_of Try.func40 rfl rfl fun w0=>?_
  (repeat' (first | refine J_seq ?_ | refine J_skip ?_ | refine J_yes rfl ?_ | refine J_no rfl ?_))
  refine J_region ?_
  refine JL_all [] rfl ?_
  (repeat' (first | refine J_seq ?_ | refine J_skip ?_ | refine J_yes rfl ?_ | refine J_no rfl ?_))
  refine J_region ?_
  refine JL_run [] rfl ?_
  refine JL_set 11 (v':=.int .i64 ((m + 1 : Nat) : Int)) rfl (congrArg (Value.int .i64) ((w64 (n:=(m : Int) + 1) (by omega)).trans (by omega))) ?_
  refine JL_make (n:=m + 1) (c:=m + 1) rfl rfl rfl rfl rfl rfl (by omega) (by omega) (by omega) (fun _=>rfl) fun g=>?_
  refine JL_all [] rfl ?_
  rw [show made [Value.bool false] ((m + 1) * 1) = bools (List.replicate (m + 1) false) by rw [made_one,Nat.mul_one]; simp [bools]]
  (repeat' (first | refine J_seq ?_ | refine J_skip ?_ | refine J_yes rfl ?_ | refine J_no rfl ?_))
  refine J_region ?_
  refine JL_all [] rfl ?_
  (repeat' (first | refine J_seq ?_ | refine J_skip ?_ | refine J_yes rfl ?_ | refine J_no rfl ?_))
  refine J_region ?_
  refine JL_all [] rfl ?_
  refine J_block ?_
  refine J_loop (σ:=Nat) (fun k=>[(15,.int .i64 k),(14,.int .i64 l.length),(13,.slice A l.length c),(7,.int .i64 (lastS l k)),(6,.slice (some ⟨g,0,none⟩) (m + 1) (m + 1)),(1,.int .i64 (m : Int))])
    (fun k=>[.own (.slice (some ⟨g,0,none⟩) (m + 1) (m + 1)) 4 1 (m + 1) (bools (marksS (m + 1) (l.take k))),.seg b o (ints l)])
    (fun k=>k ≤ l.length ∧ IsSide m (l.take k)) (fun k=>l.length - k) 0 [0,1] ⟨rfl,rfl,rfl,rfl,rfl,rfl,trivial⟩ (by decide) rfl ⟨Nat.zero_le _,⟨by simp,by simp⟩⟩ ?_
  rintro k ⟨hk,hM⟩
  (repeat' (first | refine J_seq ?_ | refine J_skip ?_ | refine J_yes rfl ?_ | refine J_no rfl ?_))
  refine J_region ?_
  refine JL_all [] rfl ?_
  refine J_seq (J_dec rfl (fun hlt=>J_skip ?_) (fun hge=>J_exit ?_))
  · have hlt : k < l.length:=by omega
    obtain rfl:=hA (by intro h0; rw [h0] at hlt; simp at hlt)
    obtain ⟨x,hx⟩ : ∃ x,l[k]? = some x:=⟨l[k],List.getElem?_eq_getElem hlt⟩
    have htk : l.take (k + 1) = l.take k ++ [x]:=by rw [List.take_add_one,hx]; rfl
    have hpre : IsSide m l → IsSide m (l.take k ++ [x]):=fun h=>by rw [← htk]; exact IsSide.pre (r:=l.drop (k + 1)) (by rw [List.take_append_drop]; exact h)
    have hge:=lastS_ge hM hk
    refine J_seq (J_block ?_)
    (repeat' (first | refine J_seq ?_ | refine J_skip ?_ | refine J_yes rfl ?_ | refine J_no rfl ?_))
    refine J_region ?_
    refine JL_run [] rfl ?_
    refine JL_val [] (idx1 rfl rfl rfl rfl rfl hlt) rfl ?_
    refine JL_val [] (ldseg 1 rfl rfl rfl rfl (readT_int' hx)) rfl ?_
    refine JL_all [] rfl ?_
    (repeat' (first | refine J_seq ?_ | refine J_skip ?_ | refine J_yes rfl ?_ | refine J_no rfl ?_))
    refine J_region ?_
    refine JL_run [] rfl ?_
    by_cases hle : x ≤ lastS l k
    · refine JL_set 22 (v':=.bool true) rfl (congrArg Value.bool (cdec_yes hle)) ?_
      refine JL_all [3] rfl ?_
      refine J_yes rfl ?_
      (repeat' (first | refine J_seq ?_ | refine J_skip ?_ | refine J_yes rfl ?_ | refine J_no rfl ?_))
      refine J_region ?_
      refine JL_all [] rfl ?_
      refine J_drop [] (by decide) rfl (J_ret ⟨_,rfl,.inr ⟨fun h=>?_,rfl,rfl⟩⟩)
      have h5:=IsSide.snoc.1 (hpre h)
      rcases hge.2 with h6 | h6
      · omega
      · have:=h5.2.1 _ h6; omega
    refine JL_set 22 (v':=.bool false) rfl (congrArg Value.bool (cdec_no hle)) ?_
    refine JL_all [3] rfl ?_
    refine J_dec rfl (fun hbig=>?_) (fun hsm=>J_skip ?_)
    · (repeat' (first | refine J_seq ?_ | refine J_skip ?_ | refine J_yes rfl ?_ | refine J_no rfl ?_))
      refine J_region ?_
      refine JL_all [] rfl ?_
      refine J_drop [] (by decide) rfl (J_ret ⟨_,rfl,.inr ⟨fun h=>?_,rfl,rfl⟩⟩)
      have h5:=IsSide.snoc.1 (hpre h)
      omega
    obtain ⟨v,rfl⟩ : ∃ v : Nat,x = v:=⟨x.toNat,by omega⟩
    (repeat' (first | refine J_seq ?_ | refine J_skip ?_ | refine J_yes rfl ?_ | refine J_no rfl ?_))
    refine J_region ?_
    refine JL_run [] rfl ?_
    refine JL_val [] (idx1z rfl rfl rfl rfl rfl (by omega)) rfl ?_
    refine JL_store_own 0 rfl rfl rfl rfl (put_bools rfl (by rw [marksS_length]; omega)) [] rfl ?_
    refine JL_all [] rfl ?_
    (repeat' (first | refine J_seq ?_ | refine J_skip ?_ | refine J_yes rfl ?_ | refine J_no rfl ?_))
    refine J_region ?_
    refine JL_all [] rfl ?_
    refine ⟨k + 1,[0,1],⟨?_,rfl,rfl,?_,rfl,rfl,trivial⟩,by decide,?_,⟨by omega,?_⟩,by omega⟩
    · show some (Value.int .i64 (IntKind.i64.wrap ((k : Int) + 1))) = _
      rw [w64 (by omega)]; rfl
    · show some (Value.int .i64 _) = _
      rw [lastS_succ hx]
    · rw [htk,marksS_app,Int.toNat_natCast]; rfl
    · rw [htk]
      exact IsSide.snoc.2 ⟨hM,fun y hy=>by have:=lastS_most hM hk y hy; omega,by omega,by omega⟩
  · (repeat' (first | refine J_seq ?_ | refine J_skip ?_ | refine J_yes rfl ?_ | refine J_no rfl ?_))
    refine J_region ?_
    refine JL_all [] rfl ?_
    obtain rfl : k = l.length:=by omega
    rw [List.take_length] at hM ⊢
    exact J_drop [0] (by decide) rfl (J_ret ⟨_,rfl,.inl ⟨hM,g,rfl,rfl⟩⟩)
/-! ### Whether nodes are a cover -/
structure IsCover (g : Gr) (sl sr : List Int) : Prop where
  left : IsSide g.left sl
  right : IsSide g.right sr
  meet : ∀ e ∈ g.edges,e.l ∈ sl ∨ e.r ∈ sr
def setC (sl sr : List Int) (Al Ar : Option Addr) (cl cr : Nat) : List Value:=[.slice Al sl.length cl,.slice Ar sr.length cr]
def setV (sl sr : List Int) (Al Ar : Option Addr) (cl cr : Nat) : Value:=.agg #[.slice Al sl.length cl,.slice Ar sr.length cr]
set_option maxHeartbeats 1000000 in
theorem covers_fn (g : Gr) (hg : g.Right) (A : Option Addr) (c b o : Nat) (hA : g.edges ≠ [] → A = some ⟨b, o, none⟩) (sl : List Int) (hsl : sl.length ≤ 100000) (Al : Option Addr) (cl bl ol : Nat) (hAl : sl ≠ [] → Al = some ⟨bl, ol, none⟩) (sr : List Int) (hsr : sr.length ≤ 100000) (Ar : Option Addr) (cr br or_ : Nat) (hAr : sr ≠ [] → Ar = some ⟨br, or_, none⟩) :
    Fn 21 [grV g A c,setV sl sr Al Ar cl cr] [] [.seg b o (edgs g.edges),.seg bl ol (ints sl),.seg br or_ (ints sr)] fun v H'=>v = .bool (cdec (IsCover g sl sr)) ∧ H' = []:=by
  have h1:=hg.left
  have h2:=hg.right
  have h3:=hg.len
  obtain ⟨nl,hnl⟩ : ∃ n : Nat,g.left = n:=⟨g.left.toNat,by omega⟩
  obtain ⟨nr,hnr⟩ : ∃ n : Nat,g.right = n:=⟨g.right.toNat,by omega⟩
  refine Fn_of Try.func21 rfl rfl fun w0=>?_
  (repeat' (first | refine J_seq ?_ | refine J_skip ?_ | refine J_yes rfl ?_ | refine J_no rfl ?_))
  refine J_region ?_
  refine JL_box (cs:=grC g A c) rfl rfl rfl (fun _=>rfl) fun p=>?_
  refine JL_box (cs:=setC sl sr Al Ar cl cr) rfl rfl rfl (fun _=>rfl) fun ps=>?_
  refine JL_all [] rfl ?_
  (repeat' (first | refine J_seq ?_ | refine J_skip ?_ | refine J_yes rfl ?_ | refine J_no rfl ?_))
  refine J_region ?_
  refine JL_val [] (v:=grV g A c) (OpV_blk 1 rfl rfl rfl rfl) rfl ?_
  refine JL_callR [] (gcheck_fn g hg A c b o hA) rfl rfl rfl rfl (by kernel_rfl) ⟨⟨2,_,by simp,rfl,shows_seg _ _ _,seen_seg⟩,trivial⟩ (fun _=>rfl) ?_
  rintro v H' ⟨rfl,rfl⟩
  refine ⟨rfl,?_⟩
  refine JL_all [] rfl ?_
  refine J_dec rfl (fun h=>absurd rfl h) (fun _=>J_skip ?_)
  (repeat' (first | refine J_seq ?_ | refine J_skip ?_ | refine J_yes rfl ?_ | refine J_no rfl ?_))
  refine J_region ?_
  refine JL_run [] rfl ?_
  (first | refine JL_val [] (OpV_blk 0 rfl rfl rfl rfl) rfl ?_ | refine JL_val [] (OpV_blk 1 rfl rfl rfl rfl) rfl ?_ | refine JL_val [] (OpV_blk 2 rfl rfl rfl rfl) rfl ?_ | refine JL_val [] (OpV_blk 3 rfl rfl rfl rfl) rfl ?_ | refine JL_val [] (OpV_blk 4 rfl rfl rfl rfl) rfl ?_ | refine JL_val [] (OpV_blk 5 rfl rfl rfl rfl) rfl ?_ | refine JL_val [] (OpV_blk 6 rfl rfl rfl rfl) rfl ?_ | refine JL_val [] (OpV_blk 7 rfl rfl rfl rfl) rfl ?_)
  refine JL_run [] rfl ?_
  refine JL_val [] (OpV_blk 1 rfl rfl rfl rfl) rfl ?_
  refine JL_set 18 (v':=.int .i64 (nl : Int)) rfl (congrArg (Value.int .i64) hnl) ?_
  refine JL_callR [] (marked_fn Al cl bl ol sl hAl hsl nl (by omega)) rfl rfl rfl rfl (by kernel_rfl) ⟨⟨3,_,by simp,rfl,shows_seg _ _ _,seen_seg⟩,trivial⟩ (fun _=>rfl) ?_
  rintro v H' (⟨hS1,g1,rfl,rfl⟩ | ⟨hS1,rfl,rfl⟩)
  rotate_left
  · refine ⟨rfl,?_⟩
    refine JL_all [] rfl ?_
    (repeat' (first | refine J_seq ?_ | refine J_skip ?_ | refine J_yes rfl ?_ | refine J_no rfl ?_))
    refine J_region ?_
    refine JL_run [] rfl ?_
    (first | refine JL_val [] (OpV_blk 0 rfl rfl rfl rfl) rfl ?_ | refine JL_val [] (OpV_blk 1 rfl rfl rfl rfl) rfl ?_ | refine JL_val [] (OpV_blk 2 rfl rfl rfl rfl) rfl ?_ | refine JL_val [] (OpV_blk 3 rfl rfl rfl rfl) rfl ?_ | refine JL_val [] (OpV_blk 4 rfl rfl rfl rfl) rfl ?_ | refine JL_val [] (OpV_blk 5 rfl rfl rfl rfl) rfl ?_ | refine JL_val [] (OpV_blk 6 rfl rfl rfl rfl) rfl ?_ | refine JL_val [] (OpV_blk 7 rfl rfl rfl rfl) rfl ?_)
    refine JL_run [] rfl ?_
    refine JL_val [] (OpV_blk 1 rfl rfl rfl rfl) rfl ?_
    refine JL_set 26 (v':=.int .i64 (nr : Int)) rfl (congrArg (Value.int .i64) hnr) ?_
    refine JL_callR [] (marked_fn Ar cr br or_ sr hAr hsr nr (by omega)) rfl rfl rfl rfl (by kernel_rfl) ⟨⟨4,_,by simp,rfl,shows_seg _ _ _,seen_seg⟩,trivial⟩ (fun _=>rfl) ?_
    have hno : ¬ IsCover g sl sr:=fun h=>hS1 (by have:=h.left; rwa [hnl] at this)
    rintro v H' (⟨hS2,g2,rfl,rfl⟩ | ⟨hS2,rfl,rfl⟩)
    · refine ⟨rfl,?_⟩
      refine JL_all [] rfl ?_
      (repeat' (first | refine J_seq ?_ | refine J_skip ?_ | refine J_yes rfl ?_ | refine J_no rfl ?_))
      refine J_region ?_
      refine JL_run [] rfl ?_
      refine JL_all [2] rfl ?_
      refine J_yes rfl ?_
      (repeat' (first | refine J_seq ?_ | refine J_skip ?_ | refine J_yes rfl ?_ | refine J_no rfl ?_))
      refine J_region ?_
      refine JL_all [] rfl ?_
      exact J_drop [] (by decide) rfl (J_ret ⟨_,rfl,(congrArg Value.bool (cdec_no hno)).symm,rfl⟩)
    · refine ⟨rfl,?_⟩
      refine JL_all [] rfl ?_
      (repeat' (first | refine J_seq ?_ | refine J_skip ?_ | refine J_yes rfl ?_ | refine J_no rfl ?_))
      refine J_region ?_
      refine JL_run [] rfl ?_
      refine JL_all [2] rfl ?_
      refine J_yes rfl ?_
      (repeat' (first | refine J_seq ?_ | refine J_skip ?_ | refine J_yes rfl ?_ | refine J_no rfl ?_))
      refine J_region ?_
      refine JL_all [] rfl ?_
      exact J_drop [] (by decide) rfl (J_ret ⟨_,rfl,(congrArg Value.bool (cdec_no hno)).symm,rfl⟩)
  · refine ⟨rfl,?_⟩
    refine JL_all [] rfl ?_
    (repeat' (first | refine J_seq ?_ | refine J_skip ?_ | refine J_yes rfl ?_ | refine J_no rfl ?_))
    refine J_region ?_
    refine JL_run [] rfl ?_
    refine JL_val [] (OpV_blk 1 rfl rfl rfl rfl) rfl ?_
    refine JL_run [] rfl ?_
    refine JL_val [] (OpV_blk 2 rfl rfl rfl rfl) rfl ?_
    refine JL_set 26 (v':=.int .i64 (nr : Int)) rfl (congrArg (Value.int .i64) hnr) ?_
    refine JL_callR [] (marked_fn Ar cr br or_ sr hAr hsr nr (by omega)) rfl rfl rfl rfl (by kernel_rfl) ⟨⟨5,_,by simp,rfl,shows_seg _ _ _,seen_seg⟩,trivial⟩ (fun _=>rfl) ?_
    rintro v H' (⟨hS2,g2,rfl,rfl⟩ | ⟨hS2,rfl,rfl⟩)
    rotate_left
    · refine ⟨rfl,?_⟩
      refine JL_all [] rfl ?_
      (repeat' (first | refine J_seq ?_ | refine J_skip ?_ | refine J_yes rfl ?_ | refine J_no rfl ?_))
      refine J_region ?_
      refine JL_run [] rfl ?_
      refine JL_all [2] rfl ?_
      refine J_yes rfl ?_
      (repeat' (first | refine J_seq ?_ | refine J_skip ?_ | refine J_yes rfl ?_ | refine J_no rfl ?_))
      refine J_region ?_
      refine JL_all [] rfl ?_
      exact J_drop [] (by decide) rfl (J_ret ⟨_,rfl,(congrArg Value.bool (cdec_no fun h=>hS2 (by have:=h.right; rwa [hnr] at this))).symm,rfl⟩)
    refine ⟨rfl,?_⟩
    refine JL_all [] rfl ?_
    (repeat' (first | refine J_seq ?_ | refine J_skip ?_ | refine J_yes rfl ?_ | refine J_no rfl ?_))
    refine J_region ?_
    refine JL_run [] rfl ?_
    refine JL_all [2] rfl ?_
    refine J_no rfl (J_skip ?_)
    (repeat' (first | refine J_seq ?_ | refine J_skip ?_ | refine J_yes rfl ?_ | refine J_no rfl ?_))
    refine J_region ?_
    refine JL_run [] rfl ?_
    refine JL_val [] (OpV_blk 3 rfl rfl rfl rfl) rfl ?_
    refine JL_all [] rfl ?_
    refine J_block ?_
    have hsl0 : ∀ x ∈ sl,0 ≤ x:=fun x hx=>by have:=hS1.rng x hx; omega
    have hsr0 : ∀ x ∈ sr,0 ≤ x:=fun x hx=>by have:=hS2.rng x hx; omega
    refine J_loop (σ:=Nat) (fun k=>[(39,.int .i64 k),(38,.int .i64 g.edges.length),(37,.slice A g.edges.length c),(5,.slice (some ⟨g1,0,none⟩) (nl + 1) (nl + 1)),(7,.slice (some ⟨g2,0,none⟩) (nr + 1) (nr + 1))])
      (fun k=>[.own (.slice (some ⟨g2,0,none⟩) (nr + 1) (nr + 1)) 4 1 (nr + 1) (bools (marksS (nr + 1) sr)),.own (.slice (some ⟨g1,0,none⟩) (nl + 1) (nl + 1)) 4 1 (nl + 1) (bools (marksS (nl + 1) sl)),.seg b o (edgs g.edges)])
      (fun k=>k ≤ g.edges.length ∧ ∀ j e,j < k → g.edges[j]? = some e → e.l ∈ sl ∨ e.r ∈ sr) (fun k=>g.edges.length - k) 0 [0,1,4] ⟨rfl,rfl,rfl,rfl,rfl,trivial⟩ (by decide) rfl ⟨Nat.zero_le _,fun j e hj=>by omega⟩ ?_
    rintro k ⟨hk,hall⟩
    (repeat' (first | refine J_seq ?_ | refine J_skip ?_ | refine J_yes rfl ?_ | refine J_no rfl ?_))
    refine J_region ?_
    refine JL_all [] rfl ?_
    refine J_seq (J_dec rfl (fun hlt=>J_skip ?_) (fun hge=>J_exit ?_))
    · have hlt : k < g.edges.length:=by omega
      obtain rfl:=hA (by intro h0; rw [h0] at hlt; simp at hlt)
      obtain ⟨e,he⟩ : ∃ e,g.edges[k]? = some e:=⟨g.edges[k],List.getElem?_eq_getElem hlt⟩
      have her:=hg.edge e (List.mem_of_getElem? he)
      obtain ⟨el,hel⟩ : ∃ n : Nat,e.l = n:=⟨e.l.toNat,by omega⟩
      obtain ⟨er,her2⟩ : ∃ n : Nat,e.r = n:=⟨e.r.toNat,by omega⟩
      have hln : el < nl + 1:=by omega
      have hrn : er < nr + 1:=by omega
      obtain ⟨bL,hbL⟩ : ∃ bl,(marksS (nl + 1) sl)[el]? = some bl:=⟨_,List.getElem?_eq_getElem (by rw [marksS_length]; exact hln)⟩
      obtain ⟨bR,hbR⟩ : ∃ br,(marksS (nr + 1) sr)[er]? = some br:=⟨_,List.getElem?_eq_getElem (by rw [marksS_length]; exact hrn)⟩
      have hLg:=marksS_get hln hsl0
      have hRg:=marksS_get hrn hsr0
      rw [← hel,hbL] at hLg
      rw [← her2,hbR] at hRg
      refine J_seq (J_block ?_)
      (repeat' (first | refine J_seq ?_ | refine J_skip ?_ | refine J_yes rfl ?_ | refine J_no rfl ?_))
      refine J_region ?_
      refine JL_run [] rfl ?_
      refine JL_val [] (idxN rfl rfl rfl rfl rfl hlt) rfl ?_
      refine JL_val [] (ldseg 2 rfl rfl rfl rfl (readT_edg he)) rfl ?_
      refine JL_alloc rfl rfl rfl (fun _=>rfl) fun p4=>?_
      refine JL_run [] rfl ?_
      refine JL_store 0 rfl rfl rfl rfl rfl [] rfl ?_
      refine JL_nil ?_
      (repeat' (first | refine J_seq ?_ | refine J_skip ?_ | refine J_yes rfl ?_ | refine J_no rfl ?_))
      refine J_region ?_
      refine JL_run [] rfl ?_
      (first | refine JL_val [] (OpV_blk 0 rfl rfl rfl rfl) rfl ?_ | refine JL_val [] (OpV_blk 1 rfl rfl rfl rfl) rfl ?_ | refine JL_val [] (OpV_blk 2 rfl rfl rfl rfl) rfl ?_ | refine JL_val [] (OpV_blk 3 rfl rfl rfl rfl) rfl ?_ | refine JL_val [] (OpV_blk 4 rfl rfl rfl rfl) rfl ?_ | refine JL_val [] (OpV_blk 5 rfl rfl rfl rfl) rfl ?_ | refine JL_val [] (OpV_blk 6 rfl rfl rfl rfl) rfl ?_ | refine JL_val [] (OpV_blk 7 rfl rfl rfl rfl) rfl ?_)
      refine JL_set 45 (v':=.int .i64 (el : Int)) rfl (congrArg (Value.int .i64) hel) ?_
      refine JL_val [] (idx1z rfl rfl rfl rfl rfl hln) rfl ?_
      refine JL_val [] (OpV_own 2 rfl rfl rfl (show (bools _)[el]? = some (.bool bL) from bools_get hbL)) rfl ?_
      refine JL_run [] rfl ?_
      have next : e.l ∈ sl ∨ e.r ∈ sr → ∀ j e,j < k + 1 → g.edges[j]? = some e → e.l ∈ sl ∨ e.r ∈ sr:=fun hm j e' hj he'=>by
        by_cases h : j = k
        · subst h; rw [he] at he'; simp only [Option.some.injEq] at he'; rw [← he']; exact hm
        · exact hall j e' (by omega) he'
      cases bL with
      | true =>
        refine JL_all [6] rfl ?_
        refine J_no rfl (J_skip ?_)
        (repeat' (first | refine J_seq ?_ | refine J_skip ?_ | refine J_yes rfl ?_ | refine J_no rfl ?_))
        refine J_region ?_
        refine JL_all [] rfl ?_
        refine ⟨k + 1,[1,2,3],⟨?_,rfl,rfl,rfl,rfl,trivial⟩,by decide,rfl,⟨by omega,next (.inl (hLg.1 rfl))⟩,by omega⟩
        show some (Value.int .i64 (IntKind.i64.wrap ((k : Int) + 1))) = _
        rw [w64 (by omega)]; rfl
      | false =>
      refine JL_run [6] rfl ?_
      (first | refine JL_val [6] (OpV_blk 0 rfl rfl rfl rfl) rfl ?_ | refine JL_val [6] (OpV_blk 1 rfl rfl rfl rfl) rfl ?_ | refine JL_val [6] (OpV_blk 2 rfl rfl rfl rfl) rfl ?_ | refine JL_val [6] (OpV_blk 3 rfl rfl rfl rfl) rfl ?_ | refine JL_val [6] (OpV_blk 4 rfl rfl rfl rfl) rfl ?_ | refine JL_val [6] (OpV_blk 5 rfl rfl rfl rfl) rfl ?_ | refine JL_val [6] (OpV_blk 6 rfl rfl rfl rfl) rfl ?_ | refine JL_val [6] (OpV_blk 7 rfl rfl rfl rfl) rfl ?_)
      refine JL_set 52 (v':=.int .i64 (er : Int)) rfl (congrArg (Value.int .i64) her2) ?_
      refine JL_val [6] (idx1z rfl rfl rfl rfl rfl hrn) rfl ?_
      refine JL_val [6] (OpV_own 1 rfl rfl rfl (show (bools _)[er]? = some (.bool bR) from bools_get hbR)) rfl ?_
      refine JL_all [6] rfl ?_
      cases bR with
      | true =>
        refine J_no rfl (J_skip ?_)
        (repeat' (first | refine J_seq ?_ | refine J_skip ?_ | refine J_yes rfl ?_ | refine J_no rfl ?_))
        refine J_region ?_
        refine JL_all [] rfl ?_
        refine ⟨k + 1,[1,2,3],⟨?_,rfl,rfl,rfl,rfl,trivial⟩,by decide,rfl,⟨by omega,next (.inr (hRg.1 rfl))⟩,by omega⟩
        show some (Value.int .i64 (IntKind.i64.wrap ((k : Int) + 1))) = _
        rw [w64 (by omega)]; rfl
      | false =>
        refine J_yes rfl ?_
        (repeat' (first | refine J_seq ?_ | refine J_skip ?_ | refine J_yes rfl ?_ | refine J_no rfl ?_))
        refine J_region ?_
        refine JL_all [] rfl ?_
        refine J_drop [] (by decide) rfl (J_ret ⟨_,rfl,(congrArg Value.bool (cdec_no fun h=>?_)).symm,rfl⟩)
        rcases h.meet e (List.mem_of_getElem? he) with h | h
        · exact absurd (hLg.2 h) (by decide)
        · exact absurd (hRg.2 h) (by decide)
    · (repeat' (first | refine J_seq ?_ | refine J_skip ?_ | refine J_yes rfl ?_ | refine J_no rfl ?_))
      refine J_region ?_
      refine JL_all [] rfl ?_
      refine J_drop [] (by decide) rfl (J_ret ⟨_,rfl,(congrArg Value.bool (cdec_yes ?_)).symm,rfl⟩)
      refine ⟨by rw [hnl]; exact hS1,by rw [hnr]; exact hS2,fun e he=>?_⟩
      obtain ⟨j,hj,rfl⟩:=List.mem_iff_getElem.1 he
      exact hall j _ (by omega) (List.getElem?_eq_getElem hj)
noncomputable def proveZ (g : Gr) (l sl sr : List Int) : Int:=if cdec (IsMatch g l ∧ IsCover g sl sr) = true then (if sl.length + sr.length = l.length then 0 else 8) else 1
set_option maxHeartbeats 1000000 in
theorem cprove_fn (g : Gr) (hg : g.Right) (A : Option Addr) (c b o : Nat) (hA : g.edges ≠ [] → A = some ⟨b, o, none⟩) (l : List Int) (hl : l.length ≤ 100000) (hin : ∀ x ∈ l, inB x) (L : Option Addr) (cm bm om : Nat) (hL : l ≠ [] → L = some ⟨bm, om, none⟩)
    (sl : List Int) (hsl : sl.length ≤ 100000) (Al : Option Addr) (cl bl ol : Nat) (hAl : sl ≠ [] → Al = some ⟨bl,ol,none⟩) (sr : List Int) (hsr : sr.length ≤ 100000) (Ar : Option Addr) (cr br or_ : Nat) (hAr : sr ≠ [] → Ar = some ⟨br,or_,none⟩) :
    Fn 22 [grV g A c,.slice L l.length cm,setV sl sr Al Ar cl cr] [] [.seg b o (edgs g.edges),.seg bm om (ints l),.seg bl ol (ints sl),.seg br or_ (ints sr)] fun v H'=>v = .int .i64 (proveZ g l sl sr) ∧ H' = []:=by
  refine Fn_of Try.func22 rfl rfl fun w0=>?_
  (repeat' (first | refine J_seq ?_ | refine J_skip ?_ | refine J_yes rfl ?_ | refine J_no rfl ?_))
  refine J_region ?_
  refine JL_box (cs:=grC g A c) rfl rfl rfl (fun _=>rfl) fun p=>?_
  refine JL_box (cs:=setC sl sr Al Ar cl cr) rfl rfl rfl (fun _=>rfl) fun ps=>?_
  refine JL_all [] rfl ?_
  (repeat' (first | refine J_seq ?_ | refine J_skip ?_ | refine J_yes rfl ?_ | refine J_no rfl ?_))
  refine J_region ?_
  refine JL_val [] (v:=grV g A c) (OpV_blk 1 rfl rfl rfl rfl) rfl ?_
  refine JL_callR [] (gcheck_fn g hg A c b o hA) rfl rfl rfl rfl (by kernel_rfl) ⟨⟨2,_,by simp,rfl,shows_seg _ _ _,seen_seg⟩,trivial⟩ (fun _=>rfl) ?_
  rintro v H' ⟨rfl,rfl⟩
  refine ⟨rfl,?_⟩
  refine JL_all [] rfl ?_
  (repeat' (first | refine J_seq ?_ | refine J_skip ?_ | refine J_yes rfl ?_ | refine J_no rfl ?_))
  refine J_block ?_
  (repeat' (first | refine J_seq ?_ | refine J_skip ?_ | refine J_yes rfl ?_ | refine J_no rfl ?_))
  refine J_region ?_
  refine JL_all [] rfl ?_
  refine J_dec rfl (fun h=>absurd rfl h) (fun _=>?_)
  (repeat' (first | refine J_seq ?_ | refine J_skip ?_ | refine J_yes rfl ?_ | refine J_no rfl ?_))
  refine J_region ?_
  refine JL_val [] (v:=grV g A c) (OpV_blk 1 rfl rfl rfl rfl) rfl ?_
  refine JL_run [] rfl ?_
  refine JL_callR [] (mright_fn g hg A c b o hA l hl hin L cm bm om hL) rfl rfl rfl rfl (by kernel_rfl) ⟨⟨2,_,by simp,rfl,shows_seg _ _ _,seen_seg⟩,⟨3,_,by simp,rfl,shows_seg _ _ _,seen_seg⟩,trivial⟩ (fun _=>rfl) ?_
  rintro v H' ⟨rfl,rfl⟩
  refine ⟨rfl,?_⟩
  refine JL_run [] rfl ?_
  by_cases hM : IsMatch g l
  rotate_left
  · have hz : proveZ g l sl sr = 1:=by unfold proveZ; rw [cdec_no (fun h=>hM h.1)]; rfl
    refine JL_set 19 (v':=.bool true) rfl (congrArg Value.bool (by rw [cdec_no hM]; rfl)) ?_
    refine JL_all [4] rfl ?_
    refine J_yes rfl ?_
    (repeat' (first | refine J_seq ?_ | refine J_skip ?_ | refine J_yes rfl ?_ | refine J_no rfl ?_))
    refine J_region ?_
    refine JL_all [] rfl ?_
    exact J_drop [] (by decide) rfl (J_ret ⟨_,rfl,congrArg (Value.int .i64) hz.symm,rfl⟩)
  refine JL_set 19 (v':=.bool false) rfl (congrArg Value.bool (by rw [cdec_yes hM]; rfl)) ?_
  refine JL_val [4] (v:=grV g A c) (OpV_blk 1 rfl rfl rfl rfl) rfl ?_
  refine JL_val [4] (v:=setV sl sr Al Ar cl cr) (OpV_blk 0 rfl rfl rfl rfl) rfl ?_
  refine JL_callR [4] (covers_fn g hg A c b o hA sl hsl Al cl bl ol hAl sr hsr Ar cr br or_ hAr) rfl rfl rfl rfl (by kernel_rfl) ⟨⟨2,_,by simp,rfl,shows_seg _ _ _,seen_seg⟩,⟨4,_,by simp,rfl,shows_seg _ _ _,seen_seg⟩,⟨5,_,by simp,rfl,shows_seg _ _ _,seen_seg⟩,trivial⟩ (fun _=>rfl) ?_
  rintro v H' ⟨rfl,rfl⟩
  refine ⟨rfl,?_⟩
  refine JL_run [4] rfl ?_
  by_cases hC : IsCover g sl sr
  rotate_left
  · have hz : proveZ g l sl sr = 1:=by unfold proveZ; rw [cdec_no (fun h=>hC h.2)]; rfl
    refine JL_set 14 (v':=.bool true) rfl (congrArg Value.bool (by rw [cdec_no hC]; rfl)) ?_
    refine JL_nil ?_
    refine J_yes rfl ?_
    (repeat' (first | refine J_seq ?_ | refine J_skip ?_ | refine J_yes rfl ?_ | refine J_no rfl ?_))
    refine J_region ?_
    refine JL_all [] rfl ?_
    exact J_drop [] (by decide) rfl (J_ret ⟨_,rfl,congrArg (Value.int .i64) hz.symm,rfl⟩)
  refine JL_set 14 (v':=.bool false) rfl (congrArg Value.bool (by rw [cdec_yes hC]; rfl)) ?_
  refine JL_nil ?_
  refine J_no rfl ?_
  (repeat' (first | refine J_seq ?_ | refine J_skip ?_ | refine J_yes rfl ?_ | refine J_no rfl ?_))
  refine J_region ?_
  refine JL_run [] rfl ?_
  (first | refine JL_val [] (OpV_blk 0 rfl rfl rfl rfl) rfl ?_ | refine JL_val [] (OpV_blk 1 rfl rfl rfl rfl) rfl ?_ | refine JL_val [] (OpV_blk 2 rfl rfl rfl rfl) rfl ?_ | refine JL_val [] (OpV_blk 3 rfl rfl rfl rfl) rfl ?_ | refine JL_val [] (OpV_blk 4 rfl rfl rfl rfl) rfl ?_ | refine JL_val [] (OpV_blk 5 rfl rfl rfl rfl) rfl ?_ | refine JL_val [] (OpV_blk 6 rfl rfl rfl rfl) rfl ?_ | refine JL_val [] (OpV_blk 7 rfl rfl rfl rfl) rfl ?_)
  refine JL_run [] rfl ?_
  (first | refine JL_val [] (OpV_blk 0 rfl rfl rfl rfl) rfl ?_ | refine JL_val [] (OpV_blk 1 rfl rfl rfl rfl) rfl ?_ | refine JL_val [] (OpV_blk 2 rfl rfl rfl rfl) rfl ?_ | refine JL_val [] (OpV_blk 3 rfl rfl rfl rfl) rfl ?_ | refine JL_val [] (OpV_blk 4 rfl rfl rfl rfl) rfl ?_ | refine JL_val [] (OpV_blk 5 rfl rfl rfl rfl) rfl ?_ | refine JL_val [] (OpV_blk 6 rfl rfl rfl rfl) rfl ?_ | refine JL_val [] (OpV_blk 7 rfl rfl rfl rfl) rfl ?_)
  refine JL_all [] rfl ?_
  refine J_dec rfl (fun h=>?_) (fun h=>J_skip ?_)
  · rw [w64 (by omega)] at h
    have hz : proveZ g l sl sr = 8:=by unfold proveZ; rw [cdec_yes ⟨hM,hC⟩,if_pos rfl,if_neg (fun e=>h (by omega))]
    (repeat' (first | refine J_seq ?_ | refine J_skip ?_ | refine J_yes rfl ?_ | refine J_no rfl ?_))
    refine J_region ?_
    refine JL_all [] rfl ?_
    exact J_drop [] (by decide) rfl (J_ret ⟨_,rfl,congrArg (Value.int .i64) hz.symm,rfl⟩)
  · rw [w64 (by omega)] at h
    have hz : proveZ g l sl sr = 0:=by unfold proveZ; rw [cdec_yes ⟨hM,hC⟩,if_pos rfl,if_pos (by omega)]
    (repeat' (first | refine J_seq ?_ | refine J_skip ?_ | refine J_yes rfl ?_ | refine J_no rfl ?_))
    refine J_region ?_
    refine JL_all [] rfl ?_
    exact J_drop [] (by decide) rfl (J_ret ⟨_,rfl,congrArg (Value.int .i64) hz.symm,rfl⟩)
end Go.Proofs.Ytdhenmmmkdhonaa
