
/- Whether edges are a matching. -/
import Derived.Test.YtdhenmmmkdhonaaMatchG
set_option linter.unusedVariables false
set_option linter.unusedSimpArgs false
namespace Go.Proofs.Ytdhenmmmkdhonaa
open Go.RowKit
structure IsMatch (g : Gr) (l : List Int) : Prop where
  rise : l.Pairwise (· < ·)
  rng : ∀ x ∈ l,0 ≤ x ∧ x < g.edges.length
  apart : l.Pairwise fun x y=>∀ a b,g.edges[x.toNat]? = some a → g.edges[y.toNat]? = some b → a.l ≠ b.l ∧ a.r ≠ b.r
theorem IsMatch.snoc {g : Gr} {l : List Int} {x : Int} {e : Edg} (he : g.edges[x.toNat]? = some e) : IsMatch g (l ++ [x]) ↔ IsMatch g l ∧ (∀ y ∈ l,y < x) ∧ 0 ≤ x ∧ x < g.edges.length ∧ ∀ y ∈ l,∀ a,g.edges[y.toNat]? = some a → a.l ≠ e.l ∧ a.r ≠ e.r:=by
  constructor
  · intro h
    obtain ⟨h1,_,h3⟩:=List.pairwise_append.1 h.rise
    obtain ⟨k1,_,k3⟩:=List.pairwise_append.1 h.apart
    have hx:=h.rng x (by simp)
    exact ⟨⟨h1,fun y hy=>h.rng y (by simp [hy]),k1⟩,fun y hy=>h3 y hy x (by simp),hx.1,hx.2,fun y hy a ha=>k3 y hy x (by simp) a e ha he⟩
  · rintro ⟨h,h1,h2,h3,h4⟩
    refine ⟨rise_app h.rise h1,fun y hy=>?_,?_⟩
    · rcases List.mem_append.1 hy with hy | hy
      · exact h.rng y hy
      · rw [List.mem_singleton.1 hy]; exact ⟨h2,h3⟩
    · rw [List.pairwise_append]
      refine ⟨h.apart,List.pairwise_singleton _ _,fun y hy z hz a b ha hb=>?_⟩
      rw [List.mem_singleton.1 hz,he] at hb
      simp only [Option.some.injEq] at hb
      rw [← hb]
      exact h4 y hy a ha
theorem IsMatch.pre {g : Gr} {l m : List Int} (h : IsMatch g (l ++ m)) : IsMatch g l :=
  ⟨(List.pairwise_append.1 h.rise).1,fun y hy=>h.rng y (by simp [hy]),(List.pairwise_append.1 h.apart).1⟩
def marksE (g : Gr) (side : Edg → Int) (n : Nat) (l : List Int) : List Bool:=l.foldl (fun m x=>match g.edges[x.toNat]? with | some e=>m.set (side e).toNat true | none=>m) (List.replicate n false)
theorem marksE_app (g : Gr) (side : Edg → Int) (n : Nat) (l : List Int) (x : Int) {e : Edg} (he : g.edges[x.toNat]? = some e) : marksE g side n (l ++ [x]) = (marksE g side n l).set (side e).toNat true:=by
  unfold marksE
  rw [List.foldl_append,List.foldl_cons,List.foldl_nil,he]
theorem marksE_length (g : Gr) (side : Edg → Int) (n : Nat) (l : List Int) : (marksE g side n l).length = n:=by
  unfold marksE
  have key : ∀ (l : List Int) (m : List Bool),m.length = n → (l.foldl (fun m x=>match g.edges[x.toNat]? with | some e=>m.set (side e).toNat true | none=>m) m).length = n:=by
    intro l
    induction l with
    | nil=>exact fun m h=>h
    | cons x l ih =>
      intro m h
      rw [List.foldl_cons]
      refine ih _ ?_
      split
      · rw [List.length_set]; exact h
      · exact h
  exact key l _ (by simp)
theorem marksE_from (g : Gr) (side : Edg → Int) (n v : Nat) (hv : v < n) : ∀ (l : List Int) (m : List Bool), m.length = n → (∀ x ∈ l, ∀ e, g.edges[x.toNat]? = some e → 0 ≤ side e) →
    ((l.foldl (fun m x=>match g.edges[x.toNat]? with | some e=>m.set (side e).toNat true | none=>m) m)[v]? = some true ↔ m[v]? = some true ∨ ∃ x ∈ l,∃ e,g.edges[x.toNat]? = some e ∧ side e = v)
  | [],m,_,_=>by simp
  | x :: l,m,hm,h0=>by
    rw [List.foldl_cons]
    cases he : g.edges[x.toNat]? with
    | none =>
      simp only
      rw [marksE_from g side n v hv l m hm fun y hy=>h0 y (by simp [hy])]
      refine or_congr Iff.rfl ⟨fun ⟨y,hy,e,h1,h2⟩=>⟨y,by simp [hy],e,h1,h2⟩,fun ⟨y,hy,e,h1,h2⟩=>?_⟩
      rcases List.mem_cons.1 hy with rfl | hy
      · rw [he] at h1; cases h1
      · exact ⟨y,hy,e,h1,h2⟩
    | some e =>
      simp only
      have hs:=h0 x (by simp) e he
      rw [marksE_from g side n v hv l _ (by rw [List.length_set]; exact hm) fun y hy=>h0 y (by simp [hy])]
      by_cases hev : side e = v
      · have e2 : (side e).toNat = v:=by omega
        rw [e2,List.getElem?_set_self (by omega)]
        exact ⟨fun _=>.inr ⟨x,by simp,e,he,hev⟩,fun _=>.inl rfl⟩
      · have e2 : (side e).toNat ≠ v:=by omega
        rw [List.getElem?_set_ne e2]
        refine or_congr Iff.rfl ⟨fun ⟨y,hy,a,h1,h2⟩=>⟨y,by simp [hy],a,h1,h2⟩,fun ⟨y,hy,a,h1,h2⟩=>?_⟩
        rcases List.mem_cons.1 hy with rfl | hy
        · rw [he] at h1
          simp only [Option.some.injEq] at h1
          rw [← h1] at h2
          exact absurd h2 hev
        · exact ⟨y,hy,a,h1,h2⟩
theorem marksE_get (g : Gr) (side : Edg → Int) (n : Nat) (l : List Int) (v : Nat) (hv : v < n) (h0 : ∀ x ∈ l,∀ e,g.edges[x.toNat]? = some e → 0 ≤ side e) : (marksE g side n l)[v]? = some true ↔ ∃ x ∈ l,∃ e,g.edges[x.toNat]? = some e ∧ side e = v:=by
  unfold marksE
  rw [marksE_from g side n v hv l _ (by simp) h0,List.getElem?_replicate,if_pos hv]
  simp
def lastE (l : List Int) (k : Nat) : Int:=((-1 : Int) :: l)[k]?.getD (-1)
theorem lastE_succ {l : List Int} {k : Nat} {x : Int} (hx : l[k]? = some x) : lastE l (k + 1) = x:=by
  unfold lastE
  rw [List.getElem?_cons_succ,hx]; rfl
theorem lastE_in {l : List Int} {k : Nat} (_h : (l.take k).Pairwise (· < ·)) (hk : k ≤ l.length) (h0 : 0 ≤ lastE l k) : lastE l k ∈ l.take k:=by
  cases k with
  | zero=>exact absurd (show 0 ≤ (-1 : Int) from h0) (by decide)
  | succ k =>
    have hx : l[k]? = some l[k]:=List.getElem?_eq_getElem hk
    rw [lastE_succ hx,List.take_add_one,hx]
    exact List.mem_append_right _ (List.mem_singleton.2 rfl)
theorem lastE_ge {g : Gr} {l : List Int} {k : Nat} (h : ∀ x ∈ l.take k,0 ≤ x ∧ x < g.edges.length) (hk : k ≤ l.length) : -1 ≤ lastE l k:=by
  cases k with
  | zero=>exact Int.le_refl _
  | succ k =>
    have hx : l[k]? = some l[k]:=List.getElem?_eq_getElem hk
    rw [lastE_succ hx]
    have:=h l[k] (by rw [List.take_add_one,hx]; exact List.mem_append_right _ (List.mem_singleton.2 rfl))
    omega
theorem lastE_most {l : List Int} {k : Nat} (h : (l.take k).Pairwise (· < ·)) (hk : k ≤ l.length) : ∀ y ∈ l.take k,y ≤ lastE l k:=by
  intro y hy
  cases k with
  | zero=>simp at hy
  | succ k =>
    have hx : l[k]? = some l[k]:=List.getElem?_eq_getElem hk
    rw [lastE_succ hx]
    rw [List.take_add_one,hx] at hy h
    rcases List.mem_append.1 hy with hy | hy
    · have:=(List.pairwise_append.1 h).2.2 y hy l[k] (by simp); omega
    · have : y = l[k]:=by simpa using hy
      omega
set_option maxHeartbeats 1000000 in
theorem mright_fn (g : Gr) (hg : g.Right) (A : Option Addr) (c b o : Nat) (hA : g.edges ≠ [] → A = some ⟨b, o, none⟩) (l : List Int) (hl : l.length ≤ 100000) (hin : ∀ x ∈ l, inB x) (L : Option Addr) (cl bl ol : Nat) (hL : l ≠ [] → L = some ⟨bl, ol, none⟩) :
    Fn 33 [grV g A c,.slice L l.length cl] [] [.seg b o (edgs g.edges),.seg bl ol (ints l)] fun v H'=>v = .bool (cdec (IsMatch g l)) ∧ H' = []:=by
  have h1:=hg.left
  have h2:=hg.right
  have h3:=hg.len
  obtain ⟨nl,hnl⟩ : ∃ n : Nat,g.left = n:=⟨g.left.toNat,by omega⟩
  obtain ⟨nr,hnr⟩ : ∃ n : Nat,g.right = n:=⟨g.right.toNat,by omega⟩
  have hside : ∀ (s : Edg → Int),(∀ e ∈ g.edges,0 ≤ s e) → ∀ (k : Nat) x,x ∈ l.take k → ∀ e,g.edges[x.toNat]? = some e → 0 ≤ s e:=fun s hs k x _ e he=>hs e (List.mem_of_getElem? he)
  refine Fn_of Try.func33 rfl rfl fun w0=>?_
  (repeat' (first | refine J_seq ?_ | refine J_skip ?_ | refine J_yes rfl ?_ | refine J_no rfl ?_))
  refine J_region ?_
  refine JL_box (cs:=grC g A c) rfl rfl rfl (fun _=>rfl) fun p=>?_
  refine JL_all [] rfl ?_
  (repeat' (first | refine J_seq ?_ | refine J_skip ?_ | refine J_yes rfl ?_ | refine J_no rfl ?_))
  refine J_region ?_
  refine JL_val [] (v:=grV g A c) (OpV_blk 0 rfl rfl rfl rfl) rfl ?_
  refine JL_callR [] (gcheck_fn g hg A c b o hA) rfl rfl rfl rfl (by kernel_rfl) ⟨⟨1,_,by simp,rfl,shows_seg _ _ _,seen_seg⟩,trivial⟩ (fun _=>rfl) ?_
  rintro v H' ⟨rfl,rfl⟩
  refine ⟨rfl,?_⟩
  refine JL_all [] rfl ?_
  refine J_dec rfl (fun h=>absurd rfl h) (fun _=>J_skip ?_)
  refine J_cutE (σ:=Nat × Nat) (fun s=>[(5,.slice (some ⟨s.1,0,none⟩) (nl + 1) (nl + 1)),(6,.slice (some ⟨s.2,0,none⟩) (nr + 1) (nr + 1)),(2,.pointer (some ⟨p,0,none⟩)),(1,.slice L l.length cl)])
    (fun s=>[.own (.slice (some ⟨s.1,0,none⟩) (nl + 1) (nl + 1)) 4 1 (nl + 1) (bools (List.replicate (nl + 1) false)),.own (.slice (some ⟨s.2,0,none⟩) (nr + 1) (nr + 1)) 4 1 (nr + 1) (bools (List.replicate (nr + 1) false)),blk p 44 (grC g A c),.seg b o (edgs g.edges),.seg bl ol (ints l)]) ?_ ?_
  · refine J_draw (Sf:=[blk p 44 (grC g A c),.seg b o (edgs g.edges),.seg bl ol (ints l)]) ?_
    refine JA_pre [0,1,2,4,5,6] (by decide +kernel) [0,1,2] (by decide) rfl ?_
    refine JW_run [] rfl ?_
    refine JW_still [] rfl (OpV_blk 0 rfl rfl rfl rfl) rfl ?_
    refine JW_run [] rfl ?_
    refine JW_still [] rfl (OpV_blk 0 rfl rfl rfl rfl) rfl ?_
    refine JW_run [] rfl ?_
    refine JW_nil ?_
    refine JA_set 16 (v':=.int .i64 ((nl + 1 : Nat) : Int)) rfl (congrArg (Value.int .i64) ((w64 (n:=g.left + 1) (by omega)).trans (by omega))) ?_
    refine JA_set 20 (v':=.int .i64 ((nr + 1 : Nat) : Int)) rfl (congrArg (Value.int .i64) ((w64 (n:=g.right + 1) (by omega)).trans (by omega))) ?_
    (repeat' (first
      | exact trivial
      | refine JA_step 3 [7] (by decide +kernel) (by decide) ?_
      | refine JA_step 7 [8] (by decide +kernel) (by decide) ?_
      | refine JA_step 3 [9] (by decide +kernel) (by decide) ?_
      | refine JA_step 8 [9] (by decide +kernel) (by decide) ?_
      | refine JA_step 3 [] (by decide +kernel) (by decide) ?_
      | refine JA_step 7 [] (by decide +kernel) (by decide) ?_
      | refine JA_step 8 [] (by decide +kernel) (by decide) ?_
      | refine JA_step 9 [] (by decide +kernel) (by decide) ?_
      | refine ⟨⟨_,rfl,?_⟩,?_⟩
      | refine JL_make (n:=nl + 1) (c:=nl + 1) rfl rfl rfl rfl rfl rfl (by omega) (by omega) (by omega) (fun _=>rfl) fun go=>?_
      | refine JL_make (n:=nr + 1) (c:=nr + 1) rfl rfl rfl rfl rfl rfl (by omega) (by omega) (by omega) (fun _=>rfl) fun go=>?_
      | refine JL_nil ⟨⟨[1,2,3],by decide,rfl⟩,?_⟩
      | refine JL_nil ⟨⟨[2,3,4],by decide,rfl⟩,?_⟩
      | refine JL_all [] rfl ⟨⟨[1,2,3],by decide,rfl⟩,?_⟩
      | refine JL_all [] rfl ⟨⟨[2,3,4],by decide,rfl⟩,?_⟩
      | refine JA_done (by decide +kernel) ⟨(_,_),⟨rfl,rfl,rfl,rfl,trivial⟩,?_⟩))
    all_goals rw [show made [Value.bool false] ((nl + 1) * 1) = bools (List.replicate (nl + 1) false) by rw [made_one,Nat.mul_one]; simp [bools],show made [Value.bool false] ((nr + 1) * 1) = bools (List.replicate (nr + 1) false) by rw [made_one,Nat.mul_one]; simp [bools]]
    all_goals (first | exact Fit.picks [0,1,2,3,4] (by decide) rfl | exact Fit.picks [1,0,2,3,4] (by decide) rfl)
  · rintro ⟨p5,p6⟩
    have hlN : ∀ k,∀ x ∈ l.take k,∀ e,g.edges[x.toNat]? = some e → 0 ≤ e.l:=hside (·.l) fun e he=>by have:=(hg.edge e he).1; omega
    have hrN : ∀ k,∀ x ∈ l.take k,∀ e,g.edges[x.toNat]? = some e → 0 ≤ e.r:=hside (·.r) fun e he=>by have:=(hg.edge e he).2; omega
    (repeat' (first | refine J_seq ?_ | refine J_skip ?_ | refine J_yes rfl ?_ | refine J_no rfl ?_))
    refine J_region ?_
    refine JL_all [] rfl ?_
    (repeat' (first | refine J_seq ?_ | refine J_skip ?_ | refine J_yes rfl ?_ | refine J_no rfl ?_))
    refine J_region ?_
    refine JL_run [] rfl ?_
    refine JL_all [] rfl ?_
    refine J_block ?_
    refine J_loop (σ:=Nat) (fun k=>[(24,.int .i64 k),(23,.int .i64 l.length),(22,.slice L l.length cl),(7,.int .i64 (lastE l k)),(5,.slice (some ⟨p5,0,none⟩) (nl + 1) (nl + 1)),(6,.slice (some ⟨p6,0,none⟩) (nr + 1) (nr + 1)),(2,.pointer (some ⟨p,0,none⟩))])
      (fun k=>[.own (.slice (some ⟨p5,0,none⟩) (nl + 1) (nl + 1)) 4 1 (nl + 1) (bools (marksE g (·.l) (nl + 1) (l.take k))),.own (.slice (some ⟨p6,0,none⟩) (nr + 1) (nr + 1)) 4 1 (nr + 1) (bools (marksE g (·.r) (nr + 1) (l.take k))),blk p 44 (grC g A c),.seg b o (edgs g.edges),.seg bl ol (ints l)])
      (fun k=>k ≤ l.length ∧ IsMatch g (l.take k)) (fun k=>l.length - k) 0 [0,1,2,3,4] ⟨rfl,rfl,rfl,rfl,rfl,rfl,rfl,trivial⟩ (by decide) rfl ⟨Nat.zero_le _,⟨by simp,by simp,by simp⟩⟩ ?_
    rintro k ⟨hk,hM⟩
    (repeat' (first | refine J_seq ?_ | refine J_skip ?_ | refine J_yes rfl ?_ | refine J_no rfl ?_))
    refine J_region ?_
    refine JL_all [] rfl ?_
    refine J_seq (J_dec rfl (fun hlt=>J_skip ?_) (fun hge=>J_exit ?_))
    · have hlt : k < l.length:=by omega
      obtain rfl:=hL (by intro h0; rw [h0] at hlt; simp at hlt)
      obtain ⟨x,hx⟩ : ∃ x,l[k]? = some x:=⟨l[k],List.getElem?_eq_getElem hlt⟩
      have hxb:=hin x (List.mem_of_getElem? hx)
      have htk : l.take (k + 1) = l.take k ++ [x]:=by rw [List.take_add_one,hx]; rfl
      have hpre : IsMatch g l → IsMatch g (l.take k ++ [x]):=fun h=>by rw [← htk]; exact IsMatch.pre (m:=l.drop (k + 1)) (by rw [List.take_append_drop]; exact h)
      refine J_seq (J_block ?_)
      (repeat' (first | refine J_seq ?_ | refine J_skip ?_ | refine J_yes rfl ?_ | refine J_no rfl ?_))
      refine J_region ?_
      refine JL_run [] rfl ?_
      refine JL_val [] (idx1 rfl rfl rfl rfl rfl hlt) rfl ?_
      refine JL_val [] (ldseg 4 rfl rfl rfl rfl (readT_int' hx)) rfl ?_
      refine JL_all [] rfl ?_
      (repeat' (first | refine J_seq ?_ | refine J_skip ?_ | refine J_yes rfl ?_ | refine J_no rfl ?_))
      refine J_region ?_
      refine JL_run [] rfl ?_
      by_cases hle : x ≤ lastE l k
      · refine JL_set 31 (v':=.bool true) rfl (congrArg Value.bool (cdec_yes hle)) ?_
        refine JL_all [3] rfl ?_
        refine J_yes rfl ?_
        (repeat' (first | refine J_seq ?_ | refine J_skip ?_ | refine J_yes rfl ?_ | refine J_no rfl ?_))
        refine J_region ?_
        refine JL_all [] rfl ?_
        refine J_drop [] (by decide) rfl (J_ret ⟨_,rfl,?_,rfl⟩)
        refine (congrArg Value.bool (cdec_no fun h=>?_)).symm
        have h5:=hpre h
        have h6:=(h5.rng x (by simp)).1
        have h7:=lastE_in hM.rise hk (by omega)
        have:=(List.pairwise_append.1 h5.rise).2.2 _ h7 x (by simp)
        omega
      refine JL_set 31 (v':=.bool false) rfl (congrArg Value.bool (cdec_no hle)) ?_
      refine JL_run [3] rfl ?_
      (first | refine JL_val [3] (OpV_blk 0 rfl rfl rfl rfl) rfl ?_ | refine JL_val [3] (OpV_blk 1 rfl rfl rfl rfl) rfl ?_ | refine JL_val [3] (OpV_blk 2 rfl rfl rfl rfl) rfl ?_ | refine JL_val [3] (OpV_blk 3 rfl rfl rfl rfl) rfl ?_ | refine JL_val [3] (OpV_blk 4 rfl rfl rfl rfl) rfl ?_ | refine JL_val [3] (OpV_blk 5 rfl rfl rfl rfl) rfl ?_ | refine JL_val [3] (OpV_blk 6 rfl rfl rfl rfl) rfl ?_ | refine JL_val [3] (OpV_blk 7 rfl rfl rfl rfl) rfl ?_)
      refine JL_run [3] rfl ?_
      refine JL_nil ?_
      refine J_dec rfl (fun hbig=>?_) (fun hsm=>J_skip ?_)
      · (repeat' (first | refine J_seq ?_ | refine J_skip ?_ | refine J_yes rfl ?_ | refine J_no rfl ?_))
        refine J_region ?_
        refine JL_all [] rfl ?_
        refine J_drop [] (by decide) rfl (J_ret ⟨_,rfl,?_,rfl⟩)
        refine (congrArg Value.bool (cdec_no fun h=>?_)).symm
        have:=((hpre h).rng x (by simp)).2
        omega
      have hx0 : 0 ≤ x:=by have:=lastE_ge hM.rng hk; omega
      obtain ⟨m,hm⟩ : ∃ m : Nat,x = m:=⟨x.toNat,by omega⟩
      subst hm
      have hme : m < g.edges.length:=by omega
      obtain ⟨e,he⟩ : ∃ e,g.edges[m]? = some e:=⟨g.edges[m],List.getElem?_eq_getElem hme⟩
      have her:=hg.edge e (List.mem_of_getElem? he)
      have he' : g.edges[((m : Nat) : Int).toNat]? = some e:=by rw [Int.toNat_natCast]; exact he
      obtain ⟨el,hel⟩ : ∃ n : Nat,e.l = n:=⟨e.l.toNat,by omega⟩
      obtain ⟨er,her2⟩ : ∃ n : Nat,e.r = n:=⟨e.r.toNat,by omega⟩
      have hln : el < nl + 1:=by omega
      have hrn : er < nr + 1:=by omega
      have hsnoc:=IsMatch.snoc (l:=l.take k) he'
      have hbl : ∃ bl,(marksE g (·.l) (nl + 1) (l.take k))[el]? = some bl:=⟨_,List.getElem?_eq_getElem (by rw [marksE_length]; exact hln)⟩
      have hbr : ∃ br,(marksE g (·.r) (nr + 1) (l.take k))[er]? = some br:=⟨_,List.getElem?_eq_getElem (by rw [marksE_length]; exact hrn)⟩
      obtain ⟨bL,hbL⟩:=hbl
      obtain ⟨bR,hbR⟩:=hbr
      have hLg:=marksE_get g (·.l) (nl + 1) (l.take k) el hln (hlN k)
      have hRg:=marksE_get g (·.r) (nr + 1) (l.take k) er hrn (hrN k)
      obtain rfl:=hA (by intro h0; rw [h0] at hme; simp at hme)
      (repeat' (first | refine J_seq ?_ | refine J_skip ?_ | refine J_yes rfl ?_ | refine J_no rfl ?_))
      refine J_region ?_
      refine JL_run [] rfl ?_
      (first | refine JL_val [] (OpV_blk 0 rfl rfl rfl rfl) rfl ?_ | refine JL_val [] (OpV_blk 1 rfl rfl rfl rfl) rfl ?_ | refine JL_val [] (OpV_blk 2 rfl rfl rfl rfl) rfl ?_ | refine JL_val [] (OpV_blk 3 rfl rfl rfl rfl) rfl ?_ | refine JL_val [] (OpV_blk 4 rfl rfl rfl rfl) rfl ?_ | refine JL_val [] (OpV_blk 5 rfl rfl rfl rfl) rfl ?_ | refine JL_val [] (OpV_blk 6 rfl rfl rfl rfl) rfl ?_ | refine JL_val [] (OpV_blk 7 rfl rfl rfl rfl) rfl ?_)
      refine JL_run [] rfl ?_
      refine JL_val [] (idxN rfl rfl rfl rfl rfl hme) rfl ?_
      refine JL_val [] (ldseg 3 rfl rfl rfl rfl (readT_edg he)) rfl ?_
      refine JL_alloc rfl rfl rfl (fun _=>rfl) fun p4=>?_
      refine JL_run [] rfl ?_
      refine JL_store 0 rfl rfl rfl rfl rfl [] rfl ?_
      refine JL_nil ?_
      (repeat' (first | refine J_seq ?_ | refine J_skip ?_ | refine J_yes rfl ?_ | refine J_no rfl ?_))
      refine J_region ?_
      refine JL_run [] rfl ?_
      (first | refine JL_val [] (OpV_blk 0 rfl rfl rfl rfl) rfl ?_ | refine JL_val [] (OpV_blk 1 rfl rfl rfl rfl) rfl ?_ | refine JL_val [] (OpV_blk 2 rfl rfl rfl rfl) rfl ?_ | refine JL_val [] (OpV_blk 3 rfl rfl rfl rfl) rfl ?_ | refine JL_val [] (OpV_blk 4 rfl rfl rfl rfl) rfl ?_ | refine JL_val [] (OpV_blk 5 rfl rfl rfl rfl) rfl ?_ | refine JL_val [] (OpV_blk 6 rfl rfl rfl rfl) rfl ?_ | refine JL_val [] (OpV_blk 7 rfl rfl rfl rfl) rfl ?_)
      refine JL_set 45 (v':=.int .i64 (el : Int)) rfl (congrArg (Value.int .i64) hel) ?_
      refine JL_val [] (idx1z rfl rfl rfl rfl rfl hln) rfl ?_
      refine JL_val [] (OpV_own 1 rfl rfl rfl (show (bools _)[el]? = some (.bool bL) from bools_get hbL)) rfl ?_
      refine JL_run [] rfl ?_
      cases bL with
      | true =>
        refine JL_all [5] rfl ?_
        refine J_yes rfl ?_
        (repeat' (first | refine J_seq ?_ | refine J_skip ?_ | refine J_yes rfl ?_ | refine J_no rfl ?_))
        refine J_region ?_
        refine JL_all [] rfl ?_
        refine J_drop [] (by decide) rfl (J_ret ⟨_,rfl,?_,rfl⟩)
        refine (congrArg Value.bool (cdec_no fun h=>?_)).symm
        obtain ⟨y,hy,a,h1,h2⟩:=hLg.1 hbL
        exact ((hsnoc.1 (hpre h)).2.2.2.2 y hy a h1).1 (by omega)
      | false =>
      refine JL_run [5] rfl ?_
      (first | refine JL_val [5] (OpV_blk 0 rfl rfl rfl rfl) rfl ?_ | refine JL_val [5] (OpV_blk 1 rfl rfl rfl rfl) rfl ?_ | refine JL_val [5] (OpV_blk 2 rfl rfl rfl rfl) rfl ?_ | refine JL_val [5] (OpV_blk 3 rfl rfl rfl rfl) rfl ?_ | refine JL_val [5] (OpV_blk 4 rfl rfl rfl rfl) rfl ?_ | refine JL_val [5] (OpV_blk 5 rfl rfl rfl rfl) rfl ?_ | refine JL_val [5] (OpV_blk 6 rfl rfl rfl rfl) rfl ?_ | refine JL_val [5] (OpV_blk 7 rfl rfl rfl rfl) rfl ?_)
      refine JL_set 51 (v':=.int .i64 (er : Int)) rfl (congrArg (Value.int .i64) her2) ?_
      refine JL_val [5] (idx1z rfl rfl rfl rfl rfl hrn) rfl ?_
      refine JL_val [5] (OpV_own 2 rfl rfl rfl (show (bools _)[er]? = some (.bool bR) from bools_get hbR)) rfl ?_
      refine JL_all [5] rfl ?_
      cases bR with
      | true =>
        refine J_yes rfl ?_
        (repeat' (first | refine J_seq ?_ | refine J_skip ?_ | refine J_yes rfl ?_ | refine J_no rfl ?_))
        refine J_region ?_
        refine JL_all [] rfl ?_
        refine J_drop [] (by decide) rfl (J_ret ⟨_,rfl,?_,rfl⟩)
        refine (congrArg Value.bool (cdec_no fun h=>?_)).symm
        obtain ⟨y,hy,a,h1,h2⟩:=hRg.1 hbR
        exact ((hsnoc.1 (hpre h)).2.2.2.2 y hy a h1).2 (by omega)
      | false =>
      refine J_no rfl (J_skip ?_)
      (repeat' (first | refine J_seq ?_ | refine J_skip ?_ | refine J_yes rfl ?_ | refine J_no rfl ?_))
      have hM' : IsMatch g (l.take (k + 1)):=by
        rw [htk,hsnoc]
        refine ⟨hM,fun y hy=>?_,by omega,by omega,fun y hy a ha=>⟨fun h=>?_,fun h=>?_⟩⟩
        · have:=lastE_most hM.rise hk y hy; omega
        · have:=hLg.2 ⟨y,hy,a,ha,by show a.l = _; omega⟩
          rw [hbL] at this; cases this
        · have:=hRg.2 ⟨y,hy,a,ha,by show a.r = _; omega⟩
          rw [hbR] at this; cases this
      refine J_walk 12 [(0,true),(1,true),(2,true),(3,true),(4,true),(5,true),(6,true),(7,true),(8,false),(9,true),(10,false),(11,true)] [0,3,4,5] (by kernel_rfl) (by decide) rfl ?_
      refine JW_run [] rfl ?_
      refine JW_still [] rfl (OpV_blk 0 rfl rfl rfl rfl) rfl ?_
      refine JW_run [] rfl ?_
      refine JW_still [] rfl (OpV_blk 0 rfl rfl rfl rfl) rfl ?_
      refine JW_set 57 (v':=.int .i64 (el : Int)) rfl (congrArg (Value.int .i64) hel) ?_
      refine JW_set 60 (v':=.int .i64 (er : Int)) rfl (congrArg (Value.int .i64) her2) ?_
      refine JW_run [] rfl ?_
      refine JW_still [] rfl (idx1z rfl rfl rfl rfl rfl hln) rfl ?_
      refine JW_eff rfl ?_
      refine JL_store_own 1 rfl rfl rfl rfl (put_bools rfl (by rw [marksE_length]; omega)) [] rfl ?_
      refine JL_nil ⟨⟨[0,3,4,5],by decide,rfl⟩,?_⟩
      refine JW_still [] rfl (idx1z rfl rfl rfl rfl rfl hrn) rfl ?_
      refine JW_eff rfl ?_
      refine JL_store_own 2 rfl rfl rfl rfl (put_bools rfl (by rw [marksE_length]; omega)) [] rfl ?_
      refine JL_nil ⟨⟨[0,3,4,5],by decide,rfl⟩,?_⟩
      refine JW_run [] rfl ?_
      refine JW_nil ?_
      refine JL_all [] rfl ?_
      (repeat' (first | refine J_seq ?_ | refine J_skip ?_ | refine J_yes rfl ?_ | refine J_no rfl ?_))
      refine J_region ?_
      refine JL_all [] rfl ?_
      refine ⟨k + 1,[1,2,3,4,5],⟨?_,rfl,rfl,?_,rfl,rfl,rfl,trivial⟩,by decide,?_,⟨by omega,hM'⟩,by omega⟩
      · show some (Value.int .i64 (IntKind.i64.wrap ((k : Int) + 1))) = _
        rw [w64 (by omega)]; rfl
      · show some (Value.int .i64 _) = _
        rw [lastE_succ hx]
      · rw [htk,marksE_app g (·.l) _ _ _ he',marksE_app g (·.r) _ _ _ he',show e.l.toNat = el by omega,show e.r.toNat = er by omega]
        rfl
    · (repeat' (first | refine J_seq ?_ | refine J_skip ?_ | refine J_yes rfl ?_ | refine J_no rfl ?_))
      refine J_region ?_
      refine JL_all [] rfl ?_
      obtain rfl : k = l.length:=by omega
      rw [List.take_length] at hM
      refine J_drop [] (by decide) rfl (J_ret ⟨_,rfl,?_,rfl⟩)
      exact (congrArg Value.bool (cdec_yes hM)).symm
end Go.Proofs.Ytdhenmmmkdhonaa
