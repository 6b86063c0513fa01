import Derived.Test.YtiinmaihgmfniaaGreatZSh
set_option linter.unusedVariables false
set_option linter.unusedSimpArgs false
namespace Go.Sh
open Go.L

theorem i64_of {n:Int} (h1:-9223372036854775808≤n) (h2:n≤9223372036854775807):i64 n=n:=by
 show IntKind.i64.wrap n=n
 rw [IntKind.wrap_i64]; omega
theorem idx_nat {α:Type} (l:List α) (i:Nat):idx l (i:Int)=l[i]?:=by
 unfold idx; simp
theorem idx_some {α:Type} {l:List α} {i:Int} {x:α}:idx l i=some x ↔ 0≤i∧l[i.toNat]?=some x:=by
 unfold idx; split
 ·simp_all
 ·constructor
  ·intro h; cases h
  ·intro h; omega
theorem idx_lt {α:Type} {l:List α} {i:Nat} (h:i<l.length):idx l (i:Int)=some l[i]:=by
 rw [idx_nat]; simp [h]
theorem idx_at {α:Type} (p:List α) (x:α) (s:List α):idx (p++x :: s) (p.length:Int)=some x:=by
 rw [idx_nat]; simp
theorem app_of {α:Type} {xs ys:List α} (h:xs.length+ys.length≤549755813888):app xs ys=some (xs++ys):=by unfold app; rw [if_pos h]
theorem slc_take {α:Type} {xs:List α} {n:Nat} (h:n≤xs.length):slc xs 0 n=some (xs.take n):=by
 unfold slc; rw [if_pos ⟨by omega,by omega,by omega⟩]; simp
theorem slc_drop {α:Type} {xs:List α} {n:Nat} (h:n≤xs.length):slc xs n (xs.length:Int)=some (xs.drop n):=by
 unfold slc; rw [if_pos ⟨by omega,by omega,by omega⟩]; simp
theorem mkl_of {α:Type} {z:α} {n:Nat} (h:n≤1000000):mkl z (n:Int)=some (List.replicate n z):=by
 unfold mkl; rw [if_pos ⟨by omega,by omega⟩]; simp
theorem dlt {α:Type} (p:List α) (x:α) (s:List α):decide ((p.length:Int)<((p++x :: s).length:Int))=true:=by simp; omega
theorem dge {α:Type} (p:List α):decide ((p.length:Int)<((p++[]).length:Int))=false:=by simp
theorem nxt {α:Type} (p:List α) (x:α) (h:p.length<1000000000):i64 ((p.length:Int)+1)=((p++[x]).length:Int):=by
 rw [i64_of (by omega) (by omega)]; simp
theorem snoc {α:Type} (p:List α) (x:α) (s:List α):p++x :: s=(p++[x])++s:=by simp

theorem loop1 {α R:Type} {L:Nat→α→Option R} {B:(α→Option R)→α→Option R} (hL:∀ n,L (n+1)=B (L n)) (I:α→Prop) (μ:α→Nat) (Post:R→Prop)
  (step:∀ rec a,I a→(∀ a',I a'→μ a'<μ a→∃ r,rec a'=some r∧Post r)→∃ r,B rec a=some r∧Post r):∀ n a,I a→μ a<n→∃ r,L n a=some r∧Post r:=by
 intro n
 induction n with
 | zero=>intro a _ h; omega
 | succ n ih=>intro a hI h; rw [hL]; exact step _ a hI fun a' h1 h2=>ih a' h1 (by omega)
theorem loop2 {α β R:Type} {L:Nat→α→β→Option R} {B:(α→β→Option R)→α→β→Option R} (hL:∀ n,L (n+1)=B (L n)) (I:α→β→Prop) (μ:α→β→Nat) (Post:R→Prop)
  (step:∀ rec a b,I a b→(∀ a' b',I a' b'→μ a' b'<μ a b→∃ r,rec a' b'=some r∧Post r)→∃ r,B rec a b=some r∧Post r):∀ n a b,I a b→μ a b<n→∃ r,L n a b=some r∧Post r:=by
 intro n
 induction n with
 | zero=>intro a b _ h; omega
 | succ n ih=>intro a b hI h; rw [hL]; exact step _ a b hI fun a' b' h1 h2=>ih a' b' h1 (by omega)
theorem loop3 {α β γ R:Type} {L:Nat→α→β→γ→Option R} {B:(α→β→γ→Option R)→α→β→γ→Option R} (hL:∀ n,L (n+1)=B (L n)) (I:α→β→γ→Prop) (μ:α→β→γ→Nat) (Post:R→Prop)
  (step:∀ rec a b c,I a b c→(∀ a' b' c',I a' b' c'→μ a' b' c'<μ a b c→∃ r,rec a' b' c'=some r∧Post r)→∃ r,B rec a b c=some r∧Post r):∀ n a b c,I a b c→μ a b c<n→∃ r,L n a b c=some r∧Post r:=by
 intro n
 induction n with
 | zero=>intro a b c _ h; omega
 | succ n ih=>intro a b c hI h; rw [hL]; exact step _ a b c hI fun a' b' c' h1 h2=>ih a' b' c' h1 (by omega)
theorem loop4 {α β γ δ R:Type} {L:Nat→α→β→γ→δ→Option R} {B:(α→β→γ→δ→Option R)→α→β→γ→δ→Option R} (hL:∀ n,L (n+1)=B (L n)) (I:α→β→γ→δ→Prop) (μ:α→β→γ→δ→Nat) (Post:R→Prop)
  (step:∀ rec a b c d,I a b c d→(∀ a' b' c' d',I a' b' c' d'→μ a' b' c' d'<μ a b c d→∃ r,rec a' b' c' d'=some r∧Post r)→∃ r,B rec a b c d=some r∧Post r):∀ n a b c d,I a b c d→μ a b c d<n→∃ r,L n a b c d=some r∧Post r:=by
 intro n
 induction n with
 | zero=>intro a b c d _ h; omega
 | succ n ih=>intro a b c d hI h; rw [hL]; exact step _ a b c d hI fun a' b' c' d' h1 h2=>ih a' b' c' d' h1 (by omega)
def cmpS (a b:Int):Int:=if a<b then -1 else if b<a then 1 else 0
theorem compare_s (a b:Int):cmp_Compare_int a b=some (cmpS a b):=by
 simp only [cmp_Compare_int,cmp_isNaN_int,cmpS,Option.bind_some,bne_self_eq_false,Bool.false_eq_true,if_false,decide_eq_true_eq,gt_iff_lt]
 repeat' split
 all_goals first | rfl | omega
def orS:List Int→Int
 | []=>0
 | x :: r=>if x=0 then orS r else x
theorem or_loop (s:List Int):∀ (p:List Int) (n:Nat),(p++s).length<1000000→s.length<n→cmp_Or_int_L1 (p++s) n (p.length:Int)=some (orS s):=by
 induction s with
 | nil=>intro p n hb hn; cases n with
  | zero=>omega
  | succ n=>simp only [cmp_Or_int_L1,cmp_Or_int_L1_B,dge,Bool.false_eq_true,if_false,orS]
 | cons x s ih=>intro p n hb hn; cases n with
  | zero=>omega
  | succ n =>
   simp only [cmp_Or_int_L1,cmp_Or_int_L1_B,dlt,idx_at,if_true,Option.bind_some,orS,bne_iff_ne,ne_eq]
   by_cases h:x=0
   ·simp only [h,not_true_eq_false,if_false,if_true]
    have hl:p.length<1000000000:=by simp at hb; omega
    rw [nxt p 0 hl,snoc]
    exact ih (p++[0]) n (by simpa using hb) (by simpa using hn)
   ·simp [h]
theorem or_s {F:Nat} {xs:List Int} (hb:xs.length<1000000) (hF:xs.length<F):cmp_Or_int F xs=some (orS xs):=by
 have:=or_loop xs [] F (by simpa using hb) hF
 simpa [cmp_Or_int] using this
def cmpId (x y:Gq10):Int:=if cmpS x.Source y.Source ≠ 0 then cmpS x.Source y.Source else cmpS x.Seq y.Seq
def cmpSt (x y:Gq10):Int:=if cmpS x.Time y.Time ≠ 0 then cmpS x.Time y.Time else cmpId x y
theorem compareId_s {F:Nat} (hF:10≤F) (x y:Gq10):q28q F x y=some (cmpId x y):=by
 simp only [q28q,compare_s,Option.bind_some]
 rw [or_s (by simp) (by simp; omega)]
 simp only [Option.bind_some,orS,cmpId]
 repeat' split
 all_goals simp_all
theorem stampCompare_s {F:Nat} (hF:10≤F) (x y:Gq10):q136q F x y=some (cmpSt x y):=by
 simp only [q136q,compare_s,Option.bind_some]
 rw [or_s (by simp) (by simp; omega)]
 simp only [Option.bind_some,orS,cmpSt,cmpId]
 repeat' split
 all_goals simp_all
def Gq10.good (x:Gq10):Bool:=(decide (x.Time ≥ 0)) && ((decide (x.Time≤1000000)) && ((decide (x.Source ≥ 0)) && ((decide (x.Source≤99)) && ((decide (x.Seq ≥ 0)) && (decide (x.Seq≤9999))))))
theorem valid_s (x:Gq10):q159q x=some x.good:=rfl
theorem cmpS_lt {a b : Int} : cmpS a b < 0 ↔ a < b := by unfold cmpS; repeat' split
                                                         all_goals omega
theorem cmpS_zero {a b : Int} : cmpS a b = 0 ↔ a = b := by unfold cmpS; repeat' split
                                                           all_goals omega
theorem cmpId_lt {x y:Gq10}:cmpId x y<0 ↔ x.Source<y.Source ∨ x.Source=y.Source∧x.Seq<y.Seq:=by
 unfold cmpId; have:=@cmpS_zero x.Source y.Source; split
 ·rw [cmpS_lt]; simp_all
 ·rw [cmpS_lt]; simp_all
theorem cmpId_zero {x y:Gq10}:cmpId x y=0 ↔ x.Source=y.Source∧x.Seq=y.Seq:=by
 unfold cmpId; have:=@cmpS_zero x.Source y.Source; have:=@cmpS_zero x.Seq y.Seq; split <;> simp_all
theorem cmpSt_lt {x y:Gq10}:cmpSt x y<0 ↔ x.Time<y.Time ∨ x.Time=y.Time∧(x.Source<y.Source ∨ x.Source=y.Source∧x.Seq<y.Seq):=by
 unfold cmpSt; have:=@cmpS_zero x.Time y.Time; split
 ·rw [cmpS_lt]; simp_all
 ·rw [cmpId_lt]; simp_all
theorem cmpSt_zero {x y:Gq10}:cmpSt x y=0 ↔ x=y:=by
 have h1:=@cmpS_zero x.Time y.Time
 have h2:=@cmpId_zero x y
 have h3:x=y ↔ x.Time=y.Time∧x.Source=y.Source∧x.Seq=y.Seq:=by cases x; cases y; simp
 unfold cmpSt; split <;> simp_all
theorem cmpSt_gt {x y:Gq10}:cmpSt x y > 0 ↔ cmpSt y x<0:=by
 rw [cmpSt_lt]
 unfold cmpSt cmpId cmpS
 repeat' split
 all_goals omega
end Go.Sh
set_option linter.unusedVariables false
set_option linter.unusedSimpArgs false
namespace Go.Sh
open Go.L

theorem sorted_ext {α:Type} {R:α→α→Prop} (hi:∀ a,¬ R a a) (ht:∀ a b c,R a b→R b c→R a c):∀ {xs ys:List α},xs.Pairwise R→ys.Pairwise R→(∀ a,a ∈ xs ↔ a ∈ ys)→xs=ys
 | [],[],_,_,_=>rfl
 | [],y :: ys,_,_,h=>by have:=(h y).2 (by simp); simp at this
 | x :: xs,[],_,_,h=>by have:=(h x).1 (by simp); simp at this
 | x :: xs,y :: ys,hx,hy,h=>by
  rw [List.pairwise_cons] at hx hy
  have hxy:x=y:=by
   rcases List.mem_cons.1 ((h x).1 (by simp)) with h1 | h1
   ·exact h1
   ·rcases List.mem_cons.1 ((h y).2 (by simp)) with h2 | h2
    ·exact h2.symm
    ·exact absurd (ht _ _ _ (hx.1 y h2) (hy.1 x h1)) (hi x)
  subst hxy
  congr 1
  refine sorted_ext hi ht hx.2 hy.2 fun a=>?_
  have:=h a
  simp only [List.mem_cons] at this
  constructor
  ·intro ha
   rcases this.1 (.inr ha) with h1 | h1
   ·subst h1; exact absurd (hx.1 a ha) (hi a)
   ·exact h1
  ·intro ha
   rcases this.2 (.inr ha) with h1 | h1
   ·subst h1; exact absurd (hy.1 a ha) (hi a)
   ·exact h1
def insS {α:Type} (lt:α→α→Bool) (x:α):List α→List α
 | []=>[x]
 | y :: r=>if lt x y then x :: y :: r else y :: insS lt x r
theorem mem_insS {α:Type} {lt:α→α→Bool} {x a:α}:∀ {l:List α},a ∈ insS lt x l ↔ a=x ∨ a ∈ l
 | []=>by simp [insS]
 | y :: r=>by
  simp only [insS]
  split
  ·simp
  ·simp only [List.mem_cons,mem_insS (l:=r)]
   constructor
   ·rintro (h | h | h) <;> simp [h]
   ·rintro (h | h | h) <;> simp [h]
theorem perm_insS {α:Type} {lt:α→α→Bool} {x:α}:∀ {l:List α},(insS lt x l).Perm (x :: l)
 | []=>.refl _
 | y :: r=>by
  simp only [insS]
  split
  ·exact .refl _
  ·exact (perm_insS.cons y).trans (List.Perm.swap x y r)
theorem sorted_insS {α:Type} {lt:α→α→Bool} {x:α}:∀ {l:List α},(∀ a ∈ x :: l,∀ b ∈ x :: l,∀ c ∈ x :: l,lt a b=true→lt b c=true→lt a c=true)→(∀ y ∈ l,lt x y=true ∨ lt y x=true)→l.Pairwise (fun a b=>lt a b=true)→(insS lt x l).Pairwise fun a b=>lt a b=true
 | [],_,_,_=>by simp [insS]
 | y :: r,ht,htot,hp=>by
  rw [List.pairwise_cons] at hp
  simp only [insS]
  split
  ·rename_i hxy
   rw [List.pairwise_cons]
   refine ⟨fun a ha=>?_,List.pairwise_cons.2 hp⟩
   rcases List.mem_cons.1 ha with rfl | ha'
   ·exact hxy
   ·exact ht x (by simp) y (by simp) a (by simp [ha']) hxy (hp.1 a ha')
  ·rename_i hxy
   have hyx:lt y x=true:=(htot y (by simp)).resolve_left hxy
   rw [List.pairwise_cons]
   have hm2:∀ a,a ∈ x :: r→a ∈ x :: y :: r:=fun a ha=>by rcases List.mem_cons.1 ha with h | h <;> simp [h]
   refine ⟨fun a ha=>?_,sorted_insS (fun a ha b hb c hc=>ht a (hm2 a ha) b (hm2 b hb) c (hm2 c hc)) (fun z hz=>htot z (by simp [hz])) hp.2⟩
   rcases mem_insS.1 ha with rfl | ha
   ·exact hyx
   ·exact hp.1 a ha
def isort {α:Type} (lt:α→α→Bool):List α→List α
 | []=>[]
 | x :: r=>insS lt x (isort lt r)
theorem perm_isort {α:Type} {lt:α→α→Bool}:∀ {l:List α},(isort lt l).Perm l
 | []=>.refl _
 | x :: r=>perm_insS.trans (perm_isort.cons x)
theorem sorted_isort {α:Type} {lt:α→α→Bool}:∀ {l:List α},(∀ a ∈ l,∀ b ∈ l,∀ c ∈ l,lt a b=true→lt b c=true→lt a c=true)→l.Pairwise (fun a b=>lt a b=true ∨ lt b a=true)→(isort lt l).Pairwise fun a b=>lt a b=true
 | [],_,_=>by simp [isort]
 | x :: r,ht,hp=>by
  rw [List.pairwise_cons] at hp
  simp only [isort]
  have hm:∀ a,a ∈ x :: isort lt r→a ∈ x :: r:=fun a ha=>by
   rcases List.mem_cons.1 ha with h | h
   ·simp [h]
   ·simp [perm_isort.mem_iff.1 h]
  exact sorted_insS (fun a ha b hb c hc=>ht a (hm a ha) b (hm b hb) c (hm c hc)) (fun y hy=>hp.1 y (perm_isort.mem_iff.1 hy)) (sorted_isort (fun a ha b hb c hc=>ht a (by simp [ha]) b (by simp [hb]) c (by simp [hc])) hp.2)
theorem sortF_by {α:Type} {c:α→α→Option Int} {xs:List α} (cf:α→α→Int) (hlen:xs.length<1000000) (hc:∀ x ∈ xs,∀ y ∈ xs,c x y=some (cf x y)) (hi:∀ x ∈ xs,¬ cf x x<0) (ht:∀ x ∈ xs,∀ y ∈ xs,∀ z ∈ xs,cf x y<0→cf y z<0→cf x z<0)
  (hn:∀ x ∈ xs,∀ y ∈ xs,∀ z ∈ xs,¬ cf x y<0→¬ cf y z<0→¬ cf x z<0) (hd:xs.Pairwise fun a b=>cf a b<0 ∨ cf b a<0):∃ ys,sortF c xs=some ys∧ys.Perm xs∧ys.Pairwise fun a b=>cf a b<0:=by
 have hs:=sorted_isort (lt:=fun a b=>decide (cf a b<0)) (l:=xs) (fun a ha b hb c hc=>by simpa using ht a ha b hb c hc) (by simpa using hd)
 have hs':(isort (fun a b=>decide (cf a b<0)) xs).Pairwise fun a b=>cf a b<0:=by simpa using hs
 exact ⟨_,sortF_eq ⟨perm_isort,hlen,cf,hc,hi,ht,hn,hs'⟩,perm_isort,hs'⟩

def sid (x y:Gq10):Prop:=x.Source=y.Source∧x.Seq=y.Seq
instance (x y:Gq10):Decidable (sid x y):=by unfold sid; infer_instance
def okAt (l:List Gq10) (i:Nat):Prop:=∃ x,l[i]?=some x∧x.good=true
def disp (l:List Gq10) (cl:List Int) (i k:Nat):Prop:=∃ x y c d,l[i]?=some x∧l[k]?=some y∧cl[i]?=some c∧cl[k]?=some d∧sid x y∧(x.Time ≠ y.Time ∨ c ≠ d)
def counts (l:List Gq10) (cl:List Int) (i:Nat):Prop:=okAt l i∧∀ k,okAt l k→¬ disp l cl i k∧(k<i→l[k]? ≠ l[i]?)
def ltAt (l:List Gq10) (a b:Int):Prop:=∃ x y,l[a.toNat]?=some x∧l[b.toNat]?=some y∧cmpSt x y<0
structure IsCanon (l:List Gq10) (cl:List Int) (a:List Int):Prop where
 sorted:a.Pairwise (ltAt l)
 mem:∀ i,i ∈ a ↔ 0≤i∧counts l cl i.toNat
theorem ltAt_irr (l:List Gq10) (a:Int):¬ ltAt l a a:=by
 rintro ⟨x,y,h1,h2,h3⟩
 rw [h1] at h2; cases h2
 rw [cmpSt_lt] at h3; omega
theorem ltAt_trans (l:List Gq10) (a b c:Int) (h:ltAt l a b) (h':ltAt l b c):ltAt l a c:=by
 obtain ⟨x,y,h1,h2,h3⟩:=h
 obtain ⟨y',z,h4,h5,h6⟩:=h'
 rw [h2] at h4; cases h4
 refine ⟨x,z,h1,h5,?_⟩
 rw [cmpSt_lt] at *; omega
theorem IsCanon.unique {l:List Gq10} {cl:List Int} {a b:List Int} (h:IsCanon l cl a) (h':IsCanon l cl b):a=b :=
 sorted_ext (ltAt_irr l) (ltAt_trans l) h.sorted h'.sorted fun i=>by rw [h.mem,h'.mem]
def Canon (l:List Gq10) (cl:List Int) (r:List Int × Int):Prop :=
 if l.length ≠ cl.length then r=([],1) else ∃ a,IsCanon l cl a∧r=if 300<a.length then ([],3) else (a,0)
theorem Canon.unique {l:List Gq10} {cl:List Int} {r s:List Int × Int} (h:Canon l cl r) (h':Canon l cl s):r=s:=by
 unfold Canon at *
 split at h
 ·rename_i hl; rw [if_pos hl] at h'; rw [h,h']
 ·rename_i hl; rw [if_neg hl] at h'
  obtain ⟨a,h1,rfl⟩:=h
  obtain ⟨b,h2,rfl⟩:=h'
  rw [h1.unique h2]
end Go.Sh
set_option linter.unusedVariables false
set_option linter.unusedSimpArgs false
namespace Go.Sh
open Go.L

theorem okAt_lt {l:List Gq10} {i:Nat} (h:i<l.length):okAt l i ↔ l[i].good=true:=by
 unfold okAt; simp [h]
theorem okAt_ge {l:List Gq10} {i:Nat} (h:l.length≤i):¬ okAt l i:=by
 rintro ⟨x,h1,_⟩; rw [List.getElem?_eq_none h] at h1; cases h1

theorem counts_inj {l:List Gq10} {cl:List Int} {i k:Nat} (hi:counts l cl i) (hk:counts l cl k) (h:l[i]?=l[k]?):i=k:=by
 rcases Nat.lt_trichotomy i k with h1 | h1 | h1
 ·exact absurd h ((hk.2 i hi.1).2 h1)
 ·exact h1
 ·exact absurd h.symm ((hi.2 k hk.1).2 h1)
theorem counts_lt {l:List Gq10} {cl:List Int} {i:Nat} (h:counts l cl i):i<l.length:=by
 obtain ⟨⟨x,h1,_⟩,_⟩:=h
 exact (List.getElem?_eq_some_iff.1 h1).1
theorem counts_tot {l:List Gq10} {cl:List Int} {i k:Nat} (hi:counts l cl i) (hk:counts l cl k) (h:i ≠ k):ltAt l i k ∨ ltAt l k i:=by
 have h1:=counts_lt hi
 have h2:=counts_lt hk
 have h3:l[i] ≠ l[k]:=fun he=>h (counts_inj hi hk (by simp [h1,h2,he]))
 have h4:¬ cmpSt l[i] l[k]=0:=fun he=>h3 (cmpSt_zero.1 he)
 rcases Int.lt_or_gt_of_ne h4 with h5 | h5
 ·exact .inl ⟨l[i],l[k],by simp [h1],by simp [h2],h5⟩
 ·exact .inr ⟨l[k],l[i],by simp [h2],by simp [h1],cmpSt_gt.1 h5⟩

end Go.Sh
set_option linter.unusedVariables false
set_option linter.unusedSimpArgs false
namespace Go.Sh
open Go.L

def sat (l:List Gq10) (i:Int):Gq10:=l.getD i.toNat default
def cat (cl:List Int) (i:Int):Int:=cl.getD i.toNat 0
def vat (l:List Gq10) (i:Int):Prop:=0≤i∧okAt l i.toNat
theorem vat_lt {l:List Gq10} {i:Int} (h:vat l i):i.toNat<l.length:=by
 obtain ⟨_,x,h1,_⟩:=h; exact (List.getElem?_eq_some_iff.1 h1).1
theorem vat_idx {l:List Gq10} {i:Int} (h:vat l i):idx l i=some (sat l i):=by
 have:=vat_lt h
 rw [idx_some]; exact ⟨h.1,by simp [sat,this]⟩
theorem vat_cidx {l:List Gq10} {cl:List Int} {i:Int} (h:vat l i) (hl:l.length=cl.length):idx cl i=some (cat cl i):=by
 have:=vat_lt h
 have:i.toNat<cl.length:=by omega
 rw [idx_some]; exact ⟨h.1,by simp [cat,this]⟩
theorem vat_get {l:List Gq10} {i:Int} (h:vat l i):l[i.toNat]?=some (sat l i):=by
 have:=vat_lt h; simp [sat,this]
theorem vat_cget {l:List Gq10} {cl:List Int} {i:Int} (h:vat l i) (hl:l.length=cl.length):cl[i.toNat]?=some (cat cl i):=by
 have:=vat_lt h
 have:i.toNat<cl.length:=by omega
 simp [cat,this]
def diff (l:List Gq10) (cl:List Int) (i k:Int):Prop:=sat l i ≠ sat l k ∨ cat cl i ≠ cat cl k
def cmpIx (l:List Gq10) (i j:Int):Int:=if cmpId (sat l i) (sat l j) ≠ 0 then cmpId (sat l i) (sat l j) else cmpS i j
theorem cmpIx_lt {l:List Gq10} {i j:Int}:cmpIx l i j<0 ↔ ((sat l i).Source<(sat l j).Source ∨ (sat l i).Source=(sat l j).Source∧((sat l i).Seq<(sat l j).Seq ∨ (sat l i).Seq=(sat l j).Seq∧i<j)):=by
 have h1:=@cmpId_lt (sat l i) (sat l j)
 have h2:=@cmpId_zero (sat l i) (sat l j)
 have h3:=@cmpS_lt i j
 unfold cmpIx; split <;> omega
theorem groups1_s {F:Nat} (hF:10≤F) {l:List Gq10} {i j:Int} (hi:vat l i) (hj:vat l j):q105q F i j l=some (cmpIx l i j):=by
 simp only [q105q,vat_idx hi,vat_idx hj,compareId_s hF,compare_s,Option.bind_some]
 rw [or_s (by simp) (by simp; omega)]
 simp only [Option.bind_some,orS,cmpIx]
 repeat' split
 all_goals simp_all

structure Groups (l:List Gq10) (cl:List Int) (T:List Int) (gs:List q0q):Prop where
 first:∀ g ∈ gs,g.first ∈ T
 each:∀ t ∈ T,∃ g ∈ gs,cmpId (sat l g.first) (sat l t)=0∧g.first≤t
 dsp:∀ g ∈ gs,(g.disputed=true ↔ ∃ t ∈ T,cmpId (sat l g.first) (sat l t)=0∧diff l cl g.first t)
 asc:gs.Pairwise fun g h=>cmpId (sat l g.first) (sat l h.first)<0
 len:gs.length≤T.length
 last:∀ g,gs.getLast?=some g→∀ t ∈ T,¬ cmpId (sat l g.first) (sat l t)<0
theorem Groups.new {l:List Gq10} {cl:List Int} {T:List Int} {gs:List q0q} {x:Int} (h:Groups l cl T gs) (hx:∀ t ∈ T,cmpIx l t x<0) (hn:∀ g,gs.getLast?=some g→cmpId (sat l g.first) (sat l x) ≠ 0):Groups l cl (T++[x]) (gs++[⟨x,false⟩]):=by
 have hlt:∀ g ∈ gs,cmpId (sat l g.first) (sat l x)<0:=by
  intro g hg
  rcases List.eq_nil_or_concat gs with rfl | ⟨gs',g',rfl⟩
  ·simp at hg
  ·rw [List.concat_eq_append] at *
   have h1:cmpId (sat l g'.first) (sat l x)<0:=by
    have a1:=hn g' (by simp)
    have a2:=hx g'.first (h.first g' (by simp))
    rw [cmpIx_lt] at a2; rw [cmpId_lt]; have:=mt (@cmpId_zero (sat l g'.first) (sat l x)).2 a1; omega
   rcases List.mem_append.1 hg with hg | hg
   ·have:=(List.pairwise_append.1 h.asc).2.2 g hg g' (by simp)
    rw [cmpId_lt] at *; omega
   ·simp at hg; subst hg; exact h1
 have htlt:∀ t ∈ T,cmpId (sat l t) (sat l x)<0:=by
  intro t ht
  obtain ⟨g,hg,h1,_⟩:=h.each t ht
  have h2:=hlt g hg
  rw [cmpId_zero] at h1; rw [cmpId_lt] at *; omega
 constructor
 ·intro g hg
  rcases List.mem_append.1 hg with hg | hg
  ·simp [h.first g hg]
  ·simp at hg; subst hg; simp
 ·intro t ht
  rcases List.mem_append.1 ht with ht | ht
  ·obtain ⟨g,hg,h1⟩:=h.each t ht; exact ⟨g,by simp [hg],h1⟩
  ·simp at ht; subst ht; exact ⟨⟨t,false⟩,by simp,by simp [cmpId_zero],Int.le_refl _⟩
 ·intro g hg0
  rcases List.mem_append.1 hg0 with hg | hg
  ·rw [h.dsp g hg]
   constructor
   ·rintro ⟨t,ht,h1⟩; exact ⟨t,by simp [ht],h1⟩
   ·rintro ⟨t,ht,h1⟩
    have:=hlt g hg
    rcases List.mem_append.1 ht with ht | ht
    ·exact ⟨t,ht,h1⟩
    ·simp at ht; rw [ht] at h1; omega
  ·simp at hg; subst hg
   simp only [Bool.false_eq_true,false_iff]
   rintro ⟨t,ht,h1,h2⟩
   rcases List.mem_append.1 ht with ht | ht
   ·have:=htlt t ht; rw [cmpId_zero] at h1; rw [cmpId_lt] at this; omega
   ·simp at ht; subst ht; rcases h2 with h2 | h2 <;> exact h2 rfl
 ·rw [List.pairwise_append]; exact ⟨h.asc,by simp,fun g hg g' hg'=>by simp at hg'; subst hg'; exact hlt g hg⟩
 ·simp; exact h.len
 ·intro g hg t ht
  simp at hg; subst hg
  show ¬ cmpId (sat l x) (sat l t)<0
  rcases List.mem_append.1 ht with ht | ht
  ·have:=htlt t ht; rw [cmpId_lt] at *; omega
  ·simp at ht; subst ht; rw [cmpId_lt]; omega
theorem Groups.old {l:List Gq10} {cl:List Int} {T:List Int} {gs:List q0q} {g:q0q} {x:Int} {b:Bool} (h:Groups l cl T (gs++[g])) (hx:∀ t ∈ T,cmpIx l t x<0) (he:cmpId (sat l g.first) (sat l x)=0) (hb:b=true ↔ g.disputed=true ∨ diff l cl g.first x):Groups l cl (T++[x]) (gs++[⟨g.first,b⟩]):=by
 have hgx:g.first≤x:=by
  have:=hx g.first (h.first g (by simp))
  rw [cmpIx_lt] at this; rw [cmpId_zero] at he; omega
 have hlt:∀ k ∈ gs,cmpId (sat l k.first) (sat l x)<0:=fun k hk=>by
  have:=(List.pairwise_append.1 h.asc).2.2 k hk g (by simp)
  rw [cmpId_zero] at he; rw [cmpId_lt] at *; omega
 constructor
 ·intro k hk
  rcases List.mem_append.1 hk with hk | hk
  ·simp [h.first k (by simp [hk])]
  ·simp at hk; subst hk; simp [h.first g (by simp)]
 ·intro t ht
  rcases List.mem_append.1 ht with ht | ht
  ·obtain ⟨k,hk,h1⟩:=h.each t ht
   rcases List.mem_append.1 hk with hk | hk
   ·exact ⟨k,by simp [hk],h1⟩
   ·simp at hk; subst hk; exact ⟨⟨k.first,b⟩,by simp,h1⟩
  ·simp at ht; subst ht; exact ⟨⟨g.first,b⟩,by simp,he,hgx⟩
 ·intro k hk
  rcases List.mem_append.1 hk with hk | hk
  ·rw [h.dsp k (by simp [hk])]
   constructor
   ·rintro ⟨t,ht,h1⟩; exact ⟨t,by simp [ht],h1⟩
   ·rintro ⟨t,ht,h1⟩
    rcases List.mem_append.1 ht with ht | ht
    ·exact ⟨t,ht,h1⟩
    ·simp at ht; subst ht; have:=hlt k hk; omega
  ·simp at hk; subst hk
   show b=true ↔ _
   rw [hb,h.dsp g (by simp)]
   constructor
   ·rintro (⟨t,ht,h1⟩ | h1)
    ·exact ⟨t,by simp [ht],h1⟩
    ·exact ⟨x,by simp,he,h1⟩
   ·rintro ⟨t,ht,h1,h2⟩
    rcases List.mem_append.1 ht with ht | ht
    ·exact .inl ⟨t,ht,h1,h2⟩
    ·simp at ht; subst ht; exact .inr h2
 ·have:=h.asc
  rw [List.pairwise_append] at this ⊢
  exact ⟨this.1,by simp,fun k hk g' hg'=>by simp at hg'; subst hg'; exact this.2.2 k hk g (by simp)⟩
 ·have:=h.len; simp at this ⊢; omega
 ·intro k hk t ht
  simp at hk; subst hk
  rcases List.mem_append.1 ht with ht | ht
  ·exact h.last g (by simp) t ht
  ·simp at ht; subst ht; show ¬ cmpId (sat l g.first) _<0; omega

theorem groups_loop {F:Nat} (hF:10≤F) {l:List Gq10} {cl:List Int} (hl:l.length=cl.length) (hb:l.length<1000000) {S:List Int} (hS:S.Pairwise fun a b=>cmpIx l a b<0) (hv:∀ i ∈ S,vat l i) (hSl:S.length≤l.length) :
  ∀ n (k:Int) (gs:List q0q),(∃ T U,S=T++U∧k=(T.length:Int)∧Groups l cl T gs)→(S.length - k.toNat)<n→∃ r,q84q F l cl S n k gs=some r∧Groups l cl S r:=by
 refine loop2 (L:=q84q F l cl S) (B:=q98q F l cl S) (fun _=>rfl) _ (fun (k:Int) (_:List q0q)=>S.length - k.toNat) _ ?_
 rintro rec k gs ⟨T,U,hTU,rfl,hG⟩ hrec
 unfold q98q
 cases U with
 | nil =>
  have d1:decide ((T.length:Int)<(S.length:Int))=false:=by subst hTU; simp
  simp only [d1,Bool.false_eq_true,if_false]
  refine ⟨gs,rfl,?_⟩
  subst hTU; simpa using hG
 | cons x U =>
  have d1:decide ((T.length:Int)<(S.length:Int))=true:=by subst hTU; exact dlt T x U
  have hix:idx S (T.length:Int)=some x:=by subst hTU; exact idx_at T x U
  have hTl:T.length<1000000:=by have:=congrArg List.length hTU; simp at this; omega
  have hx:∀ t ∈ T,cmpIx l t x<0:=fun t ht=>by
   rw [hTU] at hS; exact (List.pairwise_append.1 hS).2.2 t ht x (by simp)
  have vx:vat l x:=hv x (by rw [hTU]; simp)
  have hgo:∀ gs',Groups l cl (T++[x]) gs'→∃ r,rec (i64 ((T.length:Int)+1)) gs'=some r∧Groups l cl S r:=fun gs' hg'=>by
   rw [nxt T x (by omega)]
   refine hrec _ _ ⟨T++[x],U,by simp [hTU],rfl,hg'⟩ ?_
   have:=congrArg List.length hTU
   simp at this ⊢; omega
  simp only [d1,if_true,hix,Option.bind_some]
  have hgl:gs.length≤T.length:=hG.len
  rcases List.eq_nil_or_concat gs with rfl | ⟨gs',g,rfl⟩
  ·have:decide (i64 ((([]:List q0q).length:Int) - 1)<0)=true:=by rw [i64_of (by simp) (by simp)]; simp
   simp only [this,if_true,Option.bind_some]
   rw [app_of (by simp)]
   exact hgo _ (hG.new hx (by simp))
  ·rw [List.concat_eq_append] at *
   simp only [List.length_append,List.length_singleton] at hgl
   have hw:i64 (((gs'++[g]).length:Int) - 1)=(gs'.length:Int):=by
    simp only [List.length_append,List.length_singleton]
    rw [i64_of (by omega) (by omega)]; omega
   have hgx:idx (gs'++[g]) (gs'.length:Int)=some g:=idx_at gs' g []
   have hneg:decide ((gs'.length:Int)<0)=false:=by simp
   have vg:vat l g.first:=hv _ (by rw [hTU]; simp [hG.first g (by simp)])
   have hap:app (gs'++[g]) [q0q.mk x false]=some (gs'++[g]++[q0q.mk x false]):=app_of (by simp; omega)
   simp only [hw,hneg,hgx,vat_idx vg,vat_idx vx,vat_cidx vg hl,vat_cidx vx hl,compareId_s hF,Bool.false_eq_true,if_false,Option.bind_some,bne_iff_ne,ne_eq,hap]
   by_cases he:cmpId (sat l g.first) (sat l x)=0
   ·simp only [he,not_true_eq_false,if_false,Bool.not_eq_eq_eq_not,Bool.not_true,decide_eq_false_iff_not]
    have hset:(gs'++[g]).set ((gs'.length:Int)).toNat (q0q.mk g.first true)=gs'++[q0q.mk g.first true]:=by simp
    by_cases hd:sat l g.first=sat l x
    ·simp only [hd,not_true_eq_false,if_false,Option.bind_some,bne_iff_ne,ne_eq]
     by_cases hc:cat cl g.first=cat cl x
     ·simp only [hc,not_true_eq_false,if_false]
      have:=hG.old (b:=g.disputed) hx he ⟨.inl,fun h=>h.elim id fun h=>(h.elim (fun h=>absurd hd h) fun h=>absurd hc h)⟩
      exact hgo _ this
     ·simp only [hc,not_false_eq_true,if_true,hset]
      exact hgo _ (hG.old (b:=true) hx he ⟨fun _=>.inr (.inr hc),fun _=>rfl⟩)
    ·simp only [hd,not_false_eq_true,if_true,Option.bind_some,hset]
     exact hgo _ (hG.old (b:=true) hx he ⟨fun _=>.inr (.inl hd),fun _=>rfl⟩)
   ·simp only [he,not_false_eq_true,if_true]
    exact hgo _ (hG.new hx (by simpa using he))
theorem groups_first {F:Nat} (hF:10≤F) {l:List Gq10} {cl:List Int} (hl:l.length=cl.length) (hb:l.length<1000000) (hFl:l.length<F) :
  ∀ n (k:Int) (acc:List Int),(∃ j:Nat,k=j∧j≤l.length∧acc.length≤j∧acc.Pairwise (·<·)∧∀ i,i ∈ acc ↔ vat l i∧i<j)→(l.length - k.toNat)<n →
   ∃ r,q83q F l cl n k acc=some r∧∃ S,(∀ i,i ∈ S ↔ vat l i)∧S.length≤l.length∧Groups l cl S r:=by
 refine loop2 (L:=q83q F l cl) (B:=q97q F l cl) (fun _=>rfl) _ (fun (k:Int) (_:List Int)=>l.length - k.toNat) _ ?_
 rintro rec k acc ⟨j,rfl,hj,hlen,hs,hm⟩ hrec
 unfold q97q
 by_cases hlt:j<l.length
 ·have d1:decide ((j:Int)<(l.length:Int))=true:=by simp; exact hlt
  have hnext:i64 ((j:Int)+1)=((j+1:Nat):Int):=by rw [i64_of (by omega) (by omega)]; rfl
  simp only [d1,if_true,idx_lt hlt,valid_s,Option.bind_some]
  by_cases hg:l[j].good=true
  ·simp only [hg,if_true]
   rw [app_of (by simp; omega)]
   simp only [Option.bind_some,hnext]
   refine hrec _ _ ⟨j+1,rfl,by omega,by simp; omega,?_,fun i=>?_⟩ (by simp; omega)
   ·rw [List.pairwise_append]; exact ⟨hs,by simp,fun a ha b hb=>by simp at hb; subst hb; exact ((hm a).1 ha).2⟩
   ·simp only [List.mem_append,List.mem_singleton,hm]
    constructor
    ·rintro (⟨h1,h2⟩ | rfl)
     ·exact ⟨h1,by omega⟩
     ·exact ⟨⟨by omega,by simpa using (okAt_lt hlt).2 hg⟩,by omega⟩
    ·rintro ⟨h1,h2⟩
     by_cases h:i=(j:Int)
     ·exact .inr h
     ·exact .inl ⟨h1,by omega⟩
  ·simp only [bF hg,Bool.false_eq_true,if_false,hnext]
   refine hrec _ _ ⟨j+1,rfl,by omega,by omega,hs,fun i=>?_⟩ (by simp; omega)
   rw [hm]
   constructor
   ·rintro ⟨h1,h2⟩; exact ⟨h1,by omega⟩
   ·rintro ⟨h1,h2⟩
    refine ⟨h1,?_⟩
    by_cases h:i=(j:Int)
    ·subst h; exact absurd ((okAt_lt hlt).1 (by simpa using h1.2)) hg
    ·omega
 ·have d1:decide ((j:Int)<(l.length:Int))=false:=by simp; omega
  simp only [d1,Bool.false_eq_true,if_false]
  have hv:∀ i,i ∈ acc ↔ vat l i:=fun i=>by
   rw [hm]
   constructor
   ·exact fun h=>h.1
   ·intro h; refine ⟨h,?_⟩; have:=vat_lt h; have:=h.1; omega
  obtain ⟨S,h1,h2,h3⟩:=sortF_by (c:=fun a0 a1=>q105q F a0 a1 l) (xs:=acc) (cmpIx l) (by omega) (fun x hx y hy=>groups1_s hF ((hv x).1 hx) ((hv y).1 hy)) (fun x _=>by rw [cmpIx_lt]; omega)
   (fun x _ y _ z _ a b=>by rw [cmpIx_lt] at *; omega) (fun x _ y _ z _ a b=>by rw [cmpIx_lt] at *; omega) (hs.imp fun {a b} h=>by simp only [cmpIx_lt]; omega)
  simp only [h1,Option.bind_some]
  have hSv:∀ i,i ∈ S ↔ vat l i:=fun i=>by rw [h2.mem_iff,hv]
  have hSl:S.length≤l.length:=by rw [h2.length_eq]; omega
  obtain ⟨r,h4,h5⟩:=groups_loop hF hl hb h3 (fun i hi=>(hSv i).1 hi) hSl F 0 [] ⟨[],S,rfl,rfl,⟨by simp,by simp,by simp,by simp,by simp,by simp⟩⟩ (by simp; omega)
  exact ⟨r,h4,S,hSv,hSl,h5⟩
structure AllGroups (l:List Gq10) (cl:List Int) (gs:List q0q):Prop where
 first:∀ g ∈ gs,vat l g.first
 each:∀ t,vat l t→∃ g ∈ gs,cmpId (sat l g.first) (sat l t)=0∧g.first≤t
 dsp:∀ g ∈ gs,(g.disputed=true ↔ ∃ t,vat l t∧cmpId (sat l g.first) (sat l t)=0∧diff l cl g.first t)
 asc:gs.Pairwise fun g h=>cmpId (sat l g.first) (sat l h.first)<0
 len:gs.length≤l.length
theorem groups_s {F:Nat} (hF:10≤F) {l:List Gq10} {cl:List Int} (hl:l.length=cl.length) (hb:l.length<1000000) (hFl:l.length<F):∃ gs,q156q F l cl=some gs∧AllGroups l cl gs:=by
 obtain ⟨r,h1,S,h2,h3,h4⟩:=groups_first hF hl hb hFl F 0 [] ⟨0,rfl,by omega,by simp,by simp,fun i=>by simp [vat]; omega⟩ (by simpa using hFl)
 refine ⟨r,h1,fun g hg=>(h2 _).1 (h4.first g hg),fun t ht=>h4.each t ((h2 t).2 ht),fun g hg=>?_,h4.asc,Nat.le_trans h4.len h3⟩
 rw [h4.dsp g hg]
 simp only [h2]
end Go.Sh
set_option linter.unusedVariables false
set_option linter.unusedSimpArgs false
namespace Go.Sh
open Go.L

theorem counts_iff {l:List Gq10} {cl:List Int} {gs:List q0q} (hl:l.length=cl.length) (hG:AllGroups l cl gs) (i:Int):(0≤i∧counts l cl i.toNat) ↔ ∃ g ∈ gs,g.disputed=false∧g.first=i:=by
 have hdisp:∀ a b:Int,vat l a→vat l b→(disp l cl a.toNat b.toNat ↔ cmpId (sat l a) (sat l b)=0∧((sat l a).Time ≠ (sat l b).Time ∨ cat cl a ≠ cat cl b)):=fun a b ha hb=>by
  unfold disp sid
  rw [cmpId_zero,vat_get ha,vat_get hb,vat_cget ha hl,vat_cget hb hl]
  simp only [Option.some.injEq]
  constructor
  ·rintro ⟨x,y,c,d,rfl,rfl,rfl,rfl,h⟩; exact h
  ·intro h; exact ⟨_,_,_,_,rfl,rfl,rfl,rfl,h⟩
 have heq:∀ x y:Gq10,cmpId x y=0→(x=y ↔ x.Time=y.Time):=fun x y h=>by
  rw [cmpId_zero] at h
  cases x; cases y; simp at h ⊢; simp [h]
 constructor
 ·rintro ⟨h0,hc⟩
  have hv:vat l i:=⟨h0,hc.1⟩
  obtain ⟨g,hg,h1,h2⟩:=hG.each i hv
  have vg:=hG.first g hg
  have hnd:∀ t,vat l t→¬ (cmpId (sat l i) (sat l t)=0∧((sat l i).Time ≠ (sat l t).Time ∨ cat cl i ≠ cat cl t)):=fun t ht h=>(hc.2 t.toNat ht.2).1 ((hdisp i t hv ht).2 h)
  have h1':cmpId (sat l i) (sat l g.first)=0:=by rw [cmpId_zero] at *; omega
  have hgi:g.first=i:=by
   by_cases hlt:g.first<i
   ·have a1:=hnd _ vg
    have a2:sat l g.first=sat l i:=(heq _ _ h1).2 (Decidable.byContradiction fun hne=>a1 ⟨h1',.inl fun h=>hne h.symm⟩)
    have a3:=(hc.2 g.first.toNat vg.2).2 (by have:=vg.1; omega)
    rw [vat_get vg,vat_get hv,a2] at a3
    exact absurd rfl a3
   ·omega
  refine ⟨g,hg,?_,hgi⟩
  cases hd:g.disputed with
  | false=>rfl
  | true =>
   obtain ⟨t,ht,b1,b2⟩:=(hG.dsp g hg).1 hd
   rw [hgi] at b1 b2
   refine absurd ?_ (hnd t ht)
   refine ⟨b1,?_⟩
   rcases b2 with b2 | b2
   ·exact .inl fun h=>b2 ((heq _ _ b1).2 h)
   ·exact .inr b2
 ·rintro ⟨g,hg,hd,rfl⟩
  have vg:=hG.first g hg
  refine ⟨vg.1,vg.2,fun k hk=>?_⟩
  have vk:vat l (k:Int):=⟨by omega,by simpa using hk⟩
  constructor
  ·intro h
   have h':=(hdisp g.first k vg vk).1 (by simpa using h)
   have:g.disputed=true:=(hG.dsp g hg).2 ⟨k,vk,h'.1,by
    rcases h'.2 with h | h
    ·exact .inl fun he=>h (by rw [he])
    ·exact .inr h⟩
   rw [hd] at this; cases this
  ·intro hlt he
   have he':sat l k=sat l g.first:=by
    have:=vat_get vk
    simp only [Int.toNat_natCast] at this
    rw [this,vat_get vg] at he; exact Option.some.inj he
   obtain ⟨g',hg',h1,h2⟩:=hG.each k vk
   have hgg:cmpId (sat l g'.first) (sat l g.first)=0:=by rw [← he']; exact h1
   have:g'=g:=by
    by_cases h:g'=g
    ·exact h
    ·have ha:=hG.asc
     have:cmpId (sat l g'.first) (sat l g.first)<0 ∨ cmpId (sat l g.first) (sat l g'.first)<0:=by
      obtain ⟨a,ha'⟩:=List.mem_iff_getElem.1 hg'
      obtain ⟨b,hb'⟩:=List.mem_iff_getElem.1 hg
      rw [List.pairwise_iff_getElem] at ha
      obtain ⟨la,rfl⟩:=ha'
      obtain ⟨lb,rfl⟩:=hb'
      rcases Nat.lt_trichotomy a b with h3 | h3 | h3
      ·exact .inl (ha a b la lb h3)
      ·subst h3; exact absurd rfl h
      ·exact .inr (ha b a lb la h3)
     rw [cmpId_zero] at hgg; rw [cmpId_lt,cmpId_lt] at this; omega
   subst this
   have:=vg.1; omega
theorem canon1_s {F:Nat} (hF:10≤F) {l:List Gq10} {i j:Int} (hi:vat l i) (hj:vat l j):q46q F i j l=some (cmpSt (sat l i) (sat l j)):=by
 simp only [q46q,vat_idx hi,vat_idx hj,stampCompare_s hF,Option.bind_some]
def firsts (gs:List q0q):List Int:=(gs.filter fun g=>!g.disputed).map (·.first)
theorem firsts_len (gs:List q0q):(firsts gs).length≤gs.length:=by
 unfold firsts; rw [List.length_map]; exact List.length_filter_le _ _
theorem canonical_loop {F:Nat} (hF:10≤F) {l:List Gq10} {cl:List Int} (hl:l.length=cl.length) (hb:l.length<1000000) {gs:List q0q} (hG:AllGroups l cl gs) :
  ∀ n (k:Int) (acc:List Int),(∃ p s,gs=p++s∧k=(p.length:Int)∧acc=firsts p)→(gs.length - k.toNat)<n→∃ r,q39q F l gs n k acc=some r∧Canon l cl r:=by
 refine loop2 (L:=q39q F l gs) (B:=q45q F l gs) (fun _=>rfl) _ (fun (k:Int) (_:List Int)=>gs.length - k.toNat) _ ?_
 rintro rec k acc ⟨p,s,hps,rfl,rfl⟩ hrec
 unfold q45q
 have hgl:=hG.len
 have hpl:p.length≤gs.length:=by rw [hps]; simp
 have hfl:=firsts_len p
 cases s with
 | cons g s =>
  have d1:decide ((p.length:Int)<(gs.length:Int))=true:=by rw [hps]; exact dlt p g s
  have hix:idx gs (p.length:Int)=some g:=by rw [hps]; exact idx_at p g s
  have hm:gs.length - ((p++[g]).length:Int).toNat<gs.length - (p.length:Int).toNat:=by
   have:=congrArg List.length hps; simp at this ⊢; omega
  simp only [d1,if_true,hix,Option.bind_some,nxt p g (by omega)]
  cases hd:g.disputed with
  | false =>
   simp only [Bool.not_false,if_true]
   rw [app_of (by simp; omega)]
   exact hrec _ _ ⟨p++[g],s,by simp [hps],rfl,by simp [firsts,hd]⟩ hm
  | true =>
   simp only [Bool.not_true,Bool.false_eq_true,if_false]
   exact hrec _ _ ⟨p++[g],s,by simp [hps],rfl,by simp [firsts,hd]⟩ hm
 | nil =>
  have hpg:gs=p:=by simpa using hps
  subst hpg
  have d1:decide ((gs.length:Int)<(gs.length:Int))=false:=by simp
  simp only [d1,Bool.false_eq_true,if_false]
  have hmem:∀ i,i ∈ firsts gs ↔ 0≤i∧counts l cl i.toNat:=fun i=>by
   rw [counts_iff hl hG]
   simp only [firsts,List.mem_map,List.mem_filter,Bool.not_eq_eq_eq_not,Bool.not_true]
   constructor
   ·rintro ⟨g,⟨h1,h2⟩,h3⟩; exact ⟨g,h1,h2,h3⟩
   ·rintro ⟨g,h1,h2,h3⟩; exact ⟨g,⟨h1,h2⟩,h3⟩
  have hvat:∀ i ∈ firsts gs,vat l i:=fun i hi=>by have:=(hmem i).1 hi; exact ⟨this.1,this.2.1⟩
  have hnd:(firsts gs).Pairwise fun a b=>a ≠ b:=by
   unfold firsts
   rw [List.pairwise_map]
   refine (hG.asc.filter _).imp fun {a b} h he=>?_
   rw [he,cmpId_lt] at h; omega
  have hlt:∀ i j,vat l i→vat l j→(cmpSt (sat l i) (sat l j)<0 ↔ ltAt l i j):=fun i j hi hj=>by
   unfold ltAt; rw [vat_get hi,vat_get hj]
   constructor
   ·intro h; exact ⟨_,_,rfl,rfl,h⟩
   ·rintro ⟨x,y,h1,h2,h3⟩; cases h1; cases h2; exact h3
  obtain ⟨a,h1,h2,h3⟩:=sortF_by (c:=fun a0 a1=>q46q F a0 a1 l) (xs:=firsts gs) (fun i j=>cmpSt (sat l i) (sat l j)) (by omega) (fun x hx y hy=>canon1_s hF (hvat x hx) (hvat y hy)) (fun x _=>by rw [cmpSt_lt]; omega)
   (fun x _ y _ z _ p q=>by rw [cmpSt_lt] at *; omega) (fun x _ y _ z _ p q=>by rw [cmpSt_lt] at *; omega) (List.Pairwise.imp_of_mem (fun {x y} hx hy hne=>by
    have cx:=(hmem x).1 hx
    have cy:=(hmem y).1 hy
    have:=counts_tot cx.2 cy.2 (fun h=>hne (by omega))
    rw [Int.toNat_of_nonneg cx.1,Int.toNat_of_nonneg cy.1,← hlt x y (hvat x hx) (hvat y hy),← hlt y x (hvat y hy) (hvat x hx)] at this
    exact this) hnd)
  have hcan:IsCanon l cl a:=⟨List.Pairwise.imp_of_mem (fun {x y} hx hy h=>(hlt x y (hvat x (h2.mem_iff.1 hx)) (hvat y (h2.mem_iff.1 hy))).1 h) h3,fun i=>by rw [h2.mem_iff]; exact hmem i⟩
  have hlen:(firsts gs).length=a.length:=h2.length_eq.symm
  by_cases h300:300<a.length
  ·have:decide (((firsts gs).length:Int) > 300)=true:=by simp; omega
   simp only [this,if_true]
   refine ⟨_,rfl,?_⟩
   unfold Canon; rw [if_neg (by omega)]
   exact ⟨a,hcan,by rw [if_pos h300]⟩
  ·have:decide (((firsts gs).length:Int) > 300)=false:=by simp; omega
   simp only [this,Bool.false_eq_true,if_false,h1,Option.bind_some]
   refine ⟨_,rfl,?_⟩
   unfold Canon; rw [if_neg (by omega)]
   exact ⟨a,hcan,by rw [if_neg h300]⟩
theorem canonical_s {F:Nat} (hF:10≤F) {l:List Gq10} {cl:List Int} (hb:l.length<1000000) (hFl:l.length<F):∃ r,q82q F l cl=some r∧Canon l cl r:=by
 unfold q82q
 by_cases hl:l.length=cl.length
 ·have:((l.length:Int) != (cl.length:Int))=false:=by simp; omega
  simp only [this,Bool.false_eq_true,if_false]
  obtain ⟨gs,h1,h2⟩:=groups_s hF hl hb hFl
  simp only [h1,Option.bind_some]
  have:=h2.len
  exact canonical_loop hF hl hb h2 F 0 [] ⟨[],gs,rfl,rfl,rfl⟩ (by simp; omega)
 ·have:((l.length:Int) != (cl.length:Int))=true:=by simp; omega
  simp only [this,if_true]
  exact ⟨_,rfl,by unfold Canon; rw [if_pos hl]⟩
end Go.Sh
set_option linter.unusedVariables false
set_option linter.unusedSimpArgs false
namespace Go.Sh
open Go.L

def okB (l:List Gq10) (i:Nat):Bool:=match l[i]? with | some x=>x.good | .none=>false
theorem okB_iff {l:List Gq10} {i:Nat}:okB l i=true ↔ okAt l i:=by
 unfold okB okAt; cases l[i]? <;> simp
def dispB (l:List Gq10) (cl:List Int) (i k:Nat):Bool:=match l[i]?,l[k]?,cl[i]?,cl[k]? with
 | some x,some y,some c,some d=>decide (x.Source=y.Source) && decide (x.Seq=y.Seq) && (decide (x.Time ≠ y.Time) || decide (c ≠ d))
 | _,_,_,_=>false
theorem dispB_iff {l:List Gq10} {cl:List Int} {i k:Nat}:dispB l cl i k=true ↔ disp l cl i k:=by
 unfold dispB disp sid
 cases l[i]? with
 | none=>simp
 | some x=>cases l[k]? with
  | none=>simp
  | some y=>cases cl[i]? with
   | none=>simp
   | some c=>cases cl[k]? with
    | none=>simp
    | some d=>simp [and_assoc]
def countsB (l:List Gq10) (cl:List Int) (i:Nat):Bool:=okB l i && (List.range l.length).all fun k=>!okB l k || (!dispB l cl i k && (!decide (k<i) || decide (l[k]? ≠ l[i]?)))
theorem countsB_iff {l:List Gq10} {cl:List Int} {i:Nat}:countsB l cl i=true ↔ counts l cl i:=by
 unfold countsB counts
 simp only [Bool.and_eq_true,okB_iff,List.all_eq_true,List.mem_range,Bool.or_eq_true,Bool.not_eq_true',decide_eq_true_eq,decide_eq_false_iff_not]
 constructor
 ·rintro ⟨h1,h2⟩
  refine ⟨h1,fun k hk=>?_⟩
  have hkl:k<l.length:=by
   by_cases h:k<l.length
   ·exact h
   ·exact absurd hk (okAt_ge (by omega))
  rcases h2 k hkl with h | ⟨h3,h4⟩
  ·have:=okB_iff.2 hk; rw [h] at this; cases this
  ·refine ⟨fun h=>?_,fun h=>h4.resolve_left (by omega)⟩
   have:=dispB_iff.2 h; rw [h3] at this; cases this
 ·rintro ⟨h1,h2⟩
  refine ⟨h1,fun k hk=>?_⟩
  cases hok:okB l k with
  | false=>exact .inl rfl
  | true =>
   right
   have:=h2 k (okB_iff.1 hok)
   refine ⟨?_,?_⟩
   ·cases hd:dispB l cl i k with
    | false=>rfl
    | true=>exact absurd (dispB_iff.1 hd) this.1
   ·by_cases h:k<i
    ·exact .inr (this.2 h)
    ·exact .inl h
def ltB (l:List Gq10) (a b:Int):Bool:=match l[a.toNat]?,l[b.toNat]? with
 | some x,some y=>decide (cmpSt x y<0)
 | _,_=>false
theorem ltB_iff {l:List Gq10} {a b:Int}:ltB l a b=true ↔ ltAt l a b:=by
 unfold ltB ltAt
 cases l[a.toNat]? with
 | none=>simp
 | some x=>cases l[b.toNat]? with
  | none=>simp
  | some y=>simp
def canonL (l:List Gq10) (cl:List Int):List Int:=isort (ltB l) (((List.range l.length).filter (countsB l cl)).map Int.ofNat)
theorem canonL_is (l:List Gq10) (cl:List Int):IsCanon l cl (canonL l cl):=by
 have hmem:∀ i,i ∈ ((List.range l.length).filter (countsB l cl)).map Int.ofNat ↔ 0≤i∧counts l cl i.toNat:=fun i=>by
  simp only [List.mem_map,List.mem_filter,List.mem_range,countsB_iff]
  constructor
  ·rintro ⟨k,⟨h1,h2⟩,rfl⟩; exact ⟨by simp,by simpa using h2⟩
  ·rintro ⟨h1,h2⟩; exact ⟨i.toNat,⟨counts_lt h2,h2⟩,by simp; omega⟩
 constructor
 ·have:=sorted_isort (lt:=ltB l) (l:=((List.range l.length).filter (countsB l cl)).map Int.ofNat) (fun a _ b _ c _ h1 h2=>by rw [ltB_iff] at *; exact ltAt_trans l a b c h1 h2) (by
   rw [List.pairwise_map]
   refine List.Pairwise.imp_of_mem (fun {a b} ha hb hab=>?_) ((List.pairwise_lt_range (n:=l.length)).filter _)
   rw [ltB_iff,ltB_iff]
   simp only [List.mem_filter,countsB_iff] at ha hb
   exact counts_tot ha.2 hb.2 (by omega))
  exact this.imp fun h=>ltB_iff.1 h
 ·intro i
  rw [canonL,perm_isort.mem_iff]; exact hmem i
def canonS (l:List Gq10) (cl:List Int):List Int × Int:=if l.length ≠ cl.length then ([],1) else if 300<(canonL l cl).length then ([],3) else (canonL l cl,0)
theorem canonS_is (l:List Gq10) (cl:List Int):Canon l cl (canonS l cl):=by
 unfold Canon canonS
 split
 ·rfl
 ·exact ⟨canonL l cl,canonL_is l cl,rfl⟩
theorem canonical_e {F:Nat} (hF:10≤F) {l:List Gq10} {cl:List Int} (hb:l.length<1000000) (hFl:l.length<F):q82q F l cl=some (canonS l cl):=by
 obtain ⟨r,h1,h2⟩:=canonical_s hF (cl:=cl) hb hFl
 rw [h1,h2.unique (canonS_is l cl)]
structure Tp (t:GTape):Prop where
 len:t.L.length≤600
 lo:0≤t.At
 hi:t.At≤600
theorem new_s (l:List Int):∃ t,make_New l=some t∧Tp t:=by
 unfold make_New
 by_cases h:(l.length:Int) > 600
 ·simp only [h,decide_true,if_true]
  rw [show (600:Int)=((600:Nat):Int) from rfl,slc_take (by omega)]
  exact ⟨_,rfl,⟨by simp; omega,by simp,by simp⟩⟩
 ·simp only [h,decide_false,Bool.false_eq_true,if_false]
  exact ⟨_,rfl,⟨by simp; omega,by simp,by simp⟩⟩
theorem raw_s {t:GTape} (h:Tp t):∃ x t',Gq40 t=some (x,t')∧Tp t':=by
 have h1:=h.len; have h2:=h.lo; have h3:=h.hi
 unfold Gq40
 by_cases hc:t.At ≥ (t.L.length:Int)
 ·simp only [hc,decide_true,if_true]; exact ⟨_,_,rfl,h⟩
 ·simp only [hc,decide_false,Bool.false_eq_true,if_false]
  rw [i64_of (n:=t.At+1) (by omega) (by omega),i64_of (by omega) (by omega)]
  have hx:idx t.L (t.At+1 - 1)=some t.L[t.At.toNat]:=by
   rw [idx_some,show t.At+1 - 1=t.At by omega]
   exact ⟨h2,by simp⟩
  rw [hx]
  exact ⟨_,_,rfl,⟨h1,by simp; omega,by simp; omega⟩⟩
theorem cut_s (x n:Int) (hn:n≤1000000000):∃ r,make_Cut x n=some r∧0≤r∧(1≤n→r<n)∧(n<1→r=0):=by
 unfold make_Cut
 by_cases h:n<1
 ·simp only [h,decide_true,if_true]; exact ⟨0,rfl,by omega,by omega,by omega⟩
 ·simp only [h,decide_false,Bool.false_eq_true,if_false]
  have hr:rmd x n=some (x.tmod n):=by unfold rmd; rw [if_neg (by omega)]
  simp only [hr,Option.bind_some]
  have b1:x.tmod n<n:=Int.tmod_lt_of_pos x (by omega)
  have b2:-n<x.tmod n:=by
   have:=Int.lt_tmod_of_pos x (show 0<n by omega)
   omega
  by_cases h0:x.tmod n<0
  ·simp only [h0,decide_true,if_true]
   rw [i64_of (by omega) (by omega)]
   exact ⟨_,rfl,by omega,fun _=>by omega,fun hh=>hh.elim⟩
  ·simp only [h0,decide_false,Bool.false_eq_true,if_false]
   exact ⟨_,rfl,by omega,fun _=>by omega,fun hh=>hh.elim⟩
theorem next_s {t:GTape} (h:Tp t) (n:Int) (hn:n≤1000000000):∃ x t',Gq28 t n=some (x,t')∧Tp t'∧0≤x∧(1≤n→x<n)∧(n<1→x=0):=by
 obtain ⟨x,t',h1,h2⟩:=raw_s h
 obtain ⟨r,h3,h4⟩:=cut_s x n hn
 exact ⟨r,t',by simp [Gq28,h1,h3],h2,h4⟩
theorem range_s {t:GTape} (h:Tp t) (a b:Int) (ha:-1000≤a) (hab:a≤b) (hb:b≤100000000):∃ x t',Gq38 t a b=some (x,t')∧Tp t'∧a≤x∧x≤b:=by
 obtain ⟨x,t',h1,h2,h3,h4,_⟩:=next_s h (b - a+1) (by omega)
 refine ⟨a+x,t',?_,h2,by omega,by have:=h4 (by omega); omega⟩
 have:=h4 (by omega)
 simp only [Gq38]
 rw [i64_of (n:=b - a) (by omega) (by omega),i64_of (n:=b - a+1) (by omega) (by omega),h1]
 simp only [Option.bind_some]
 rw [i64_of (by omega) (by omega)]
theorem one_s {t:GTape} (h:Tp t) (n:Int) (hn:n≤1000000000):∃ b t',Gq30 t n=some (b,t')∧Tp t':=by
 obtain ⟨x,t',h1,h2,_⟩:=next_s h n hn
 exact ⟨(x == i64 (n - 1)),t',by simp only [Gq30,h1,Option.bind_some],h2⟩
theorem pick_s {t:GTape} (h:Tp t) (l:List Int) (hl:1≤l.length) (hl2:l.length≤1000):∃ x t',Gq36 t l=some (x,t')∧Tp t'∧x ∈ l:=by
 obtain ⟨x,t',h1,h2,h3,h4,_⟩:=next_s h l.length (by omega)
 have:=h4 (by omega)
 have hx:idx l x=some l[x.toNat]:=by rw [idx_some]; exact ⟨h3,by simp⟩
 exact ⟨l[x.toNat],t',by simp only [Gq36,h1,Option.bind_some,hx],h2,by simp⟩
theorem wild_s {t:GTape} (h:Tp t):∃ x t',Gq54 t=some (x,t')∧Tp t':=by
 obtain ⟨x,t',h1,h2,_⟩:=pick_s h [(-1),0,1,2,31,32,99,100,200,201,9999,10000,1000000,1000001,1152921504606846976,1152921504606846977,(-1152921504606846976),9223372036854775807,(-9223372036854775808)] (by simp) (by simp)
 exact ⟨x,t',by simp only [Gq54,h1,Option.bind_some],h2⟩
theorem tp_mk {t:GTape} (h:Tp t):Tp (GTape.mk t.L t.At):=h
theorem tstamp_s {t:GTape} (h:Tp t) (n:Int) (hn:n≤1000000):∃ x t',Gq52 t n=some (x,t')∧Tp t':=by
 obtain ⟨a,t1,a1,a2,_⟩:=range_s h 0 24 (by omega) (by omega) (by omega)
 obtain ⟨b,t2,b1,b2,_⟩:=range_s a2 0 3 (by omega) (by omega) (by omega)
 obtain ⟨c,t3,c1,c2,_⟩:=range_s b2 0 9 (by omega) (by omega) (by omega)
 simp only [Gq52,a1,b1,c1,Option.bind_some]
 by_cases hp:n > 0
 ·obtain ⟨d,t4,d1,d2⟩:=one_s c2 n (by omega)
  simp only [hp,decide_true,if_true,d1,Option.bind_some]
  cases d with
  | false=>exact ⟨_,_,rfl,tp_mk d2⟩
  | true =>
   obtain ⟨e,t5,e1,e2,_⟩:=next_s (tp_mk d2) 3 (by omega)
   obtain ⟨w,t6,w1,w2⟩:=wild_s e2
   simp only [if_true,e1,w1,Option.bind_some]
   split
   ·exact ⟨_,_,rfl,w2⟩
   ·split
    ·exact ⟨_,_,rfl,w2⟩
    ·exact ⟨_,_,rfl,w2⟩
 ·simp only [hp,decide_false,Bool.false_eq_true,if_false,Option.bind_some]
  exact ⟨_,_,rfl,tp_mk c2⟩
end Go.Sh
set_option linter.unusedVariables false
set_option linter.unusedSimpArgs false
namespace Go.Sh
open Go.L

def SetC {E:Type} (st:E→Gq10) (l:List E) (e:E):Prop:=e ∈ l∧(st e).good=true∧∀ e' ∈ l,(st e').good=true→sid (st e') (st e)→e'=e
structure IsEv {E:Type} (st:E→Gq10) (l C:List E):Prop where
 sorted:C.Pairwise fun a b=>cmpSt (st a) (st b)<0
 mem:∀ e,e ∈ C ↔ SetC st l e
theorem IsEv.unique {E:Type} {st:E→Gq10} {l C D:List E} (h:IsEv st l C) (h':IsEv st l D):C=D :=
 sorted_ext (R:=fun a b=>cmpSt (st a) (st b)<0) (fun a h=>by rw [cmpSt_lt] at h; omega) (fun a b c h1 h2=>by rw [cmpSt_lt] at *; omega) h.sorted h'.sorted fun e=>by rw [h.mem,h'.mem]
theorem SetC.congr {E:Type} {st:E→Gq10} {l m:List E} (h:∀ e,e ∈ l ↔ e ∈ m) (e:E):SetC st l e ↔ SetC st m e:=by
 unfold SetC; simp only [h]
theorem IsEv.congr {E:Type} {st:E→Gq10} {l m C:List E} (h:∀ e,e ∈ l ↔ e ∈ m) (hC:IsEv st l C):IsEv st m C :=
 ⟨hC.sorted,fun e=>by rw [hC.mem,SetC.congr h]⟩
structure ClsOk {E:Type} (st:E→Gq10) (l:List E) (cl:List Int):Prop where
 len:l.length=cl.length
 iff:∀ (i:Nat) (x:E) (c:Int),l[i]?=some x→cl[i]?=some c →
  ((∀ (k:Nat) (y:E) (d:Int),l[k]?=some y→cl[k]?=some d→st y=st x→d=c) ↔ (∀ y ∈ l,st y=st x→y=x))
theorem stamp_ext {x y:Gq10} (h1:x.Time=y.Time) (h2:x.Source=y.Source) (h3:x.Seq=y.Seq):x=y:=by
 cases x; cases y; simp_all
theorem counts_set {E:Type} {st:E→Gq10} {l:List E} {cl:List Int} (h:ClsOk st l cl) {i:Nat} {x:E} (hx:l[i]?=some x) :
  counts (l.map st) cl i ↔ SetC st l x∧∀ k,k<i→l[k]? ≠ some x:=by
 have hi:i<l.length:=(List.getElem?_eq_some_iff.1 hx).1
 have hi':i<cl.length:=by have:=h.len; omega
 obtain ⟨c,hc⟩:∃ c,cl[i]?=some c:=⟨cl[i],by simp [hi']⟩
 have key:=h.iff i x c hx hc
 have hix:(l.map st)[i]?=some (st x):=by simp [hx]
 have hcl:∀ (k:Nat) (y:E),l[k]?=some y→∃ d,cl[k]?=some d:=fun k y hy=>by
  have:k<l.length:=(List.getElem?_eq_some_iff.1 hy).1
  have hk:k<cl.length:=by have:=h.len; omega
  exact ⟨cl[k],by simp [hk]⟩
 constructor
 ·rintro ⟨⟨x',h1,h2⟩,h3⟩
  rw [hix] at h1; cases h1
  have hall:∀ (k:Nat) (y:E) (d:Int),l[k]?=some y→cl[k]?=some d→(st y).good=true→sid (st y) (st x)→(st y).Time=(st x).Time∧d=c:=fun k y d hy hd hg hs=>by
   have hk:(l.map st)[k]?=some (st y):=by simp [hy]
   have:=(h3 k ⟨st y,hk,hg⟩).1
   apply Classical.byContradiction
   intro hn
   refine this ⟨st x,st y,c,d,hix,hk,hc,hd,⟨hs.1.symm,hs.2.symm⟩,?_⟩
   by_cases ht:(st x).Time=(st y).Time
   ·exact .inr fun hcd=>hn ⟨ht.symm,hcd.symm⟩
   ·exact .inl ht
  have heq:∀ y ∈ l,st y=st x→y=x:=key.1 fun k y d hy hd hs=>(hall k y d hy hd (by rw [hs]; exact h2) (by rw [hs]; exact ⟨rfl,rfl⟩)).2
  refine ⟨⟨List.mem_of_getElem? hx,h2,fun y hy hg hs=>?_⟩,fun k hk hkx=>?_⟩
  ·obtain ⟨k,hk⟩:=List.getElem?_of_mem hy
   obtain ⟨d,hd⟩:=hcl k y hk
   exact heq y hy (stamp_ext (hall k y d hk hd hg hs).1 hs.1 hs.2)
  ·have hkk:(l.map st)[k]?=some (st x):=by simp [hkx]
   exact (h3 k ⟨st x,hkk,h2⟩).2 hk (by rw [hkk,hix])
 ·rintro ⟨⟨h1,h2,h3⟩,h4⟩
  refine ⟨⟨st x,hix,h2⟩,fun k hk=>⟨?_,fun hki he=>?_⟩⟩
  ·rintro ⟨x',y',c',d,a1,a2,a3,a4,a5,a6⟩
   rw [hix] at a1; cases a1
   rw [hc] at a3; cases a3
   simp only [List.getElem?_map,Option.map_eq_some_iff] at a2
   obtain ⟨y,hy,rfl⟩:=a2
   have hgy:(st y).good=true:=by
    obtain ⟨z,b1,b2⟩:=hk
    simp only [List.getElem?_map,hy,Option.map_some,Option.some.injEq] at b1
    rw [b1]; exact b2
   have hyx:y=x:=h3 y (List.mem_of_getElem? hy) hgy ⟨a5.1.symm,a5.2.symm⟩
   subst hyx
   rcases a6 with a6 | a6
   ·exact a6 rfl
   ·refine a6 (key.2 (fun z hz hzx=>h3 z hz (by rw [hzx]; exact h2) (by rw [hzx]; exact ⟨rfl,rfl⟩)) k y d hy a4 rfl).symm
  ·obtain ⟨z,b1,b2⟩:=hk
   rw [b1,hix] at he
   cases he
   simp only [List.getElem?_map,Option.map_eq_some_iff] at b1
   obtain ⟨y,hy,hyx⟩:=b1
   have:y=x:=h3 y (List.mem_of_getElem? hy) (by rw [hyx]; exact h2) (by rw [hyx]; exact ⟨rfl,rfl⟩)
   subst this
   exact h4 k hki hy
theorem first_place {E:Type} [DecidableEq E] {x:E}:∀ {l:List E},x ∈ l→∃ i:Nat,l[i]?=some x∧∀ k,k<i→l[k]? ≠ some x
  | [],h=>by simp at h
  | y :: r,h=>by
    by_cases hxy:y=x
    · exact ⟨0,by simp [hxy],by omega⟩
    · have hr : x ∈ r := by rcases List.mem_cons.1 h with h | h
                            · exact absurd h.symm hxy
                            · exact h
      obtain ⟨i,h1,h2⟩:=first_place hr
      refine ⟨i+1,by simpa using h1,fun k hk=>?_⟩
      cases k with
      | zero=>simpa using hxy
      | succ k=>simpa using h2 k (by omega)
def pickL {E:Type} (l:List E) (a:List Int):List E:=a.filterMap fun i=>l[i.toNat]?
theorem pickL_len {E:Type} {l:List E}:∀ {a:List Int},(∀ i ∈ a,i.toNat<l.length)→(pickL l a).length=a.length
 | [],_=>rfl
 | i :: a,h=>by
  have hi:=h i (by simp)
  have:=pickL_len (l:=l) (a:=a) fun j hj=>h j (by simp [hj])
  simp only [pickL] at this
  simp [pickL,hi,this]
theorem isEv_of {E:Type} [DecidableEq E] {st:E→Gq10} {l:List E} {cl:List Int} (h:ClsOk st l cl) {a:List Int} (ha:IsCanon (l.map st) cl a):IsEv st l (pickL l a):=by
 have hlt:∀ i ∈ a,i.toNat<l.length:=fun i hi=>by have:=counts_lt ((ha.mem i).1 hi).2; simpa using this
 refine ⟨?_,fun e=>?_⟩
 ·unfold pickL
  rw [List.pairwise_filterMap]
  refine List.Pairwise.imp_of_mem (fun {i j} hi hj hij=>?_) ha.sorted
  intro x hx y hy
  obtain ⟨p,q,h1,h2,h3⟩:=hij
  simp only [List.getElem?_map,Option.map_eq_some_iff] at h1 h2
  obtain ⟨x',h4,rfl⟩:=h1
  obtain ⟨y',h5,rfl⟩:=h2
  simp_all
 ·simp only [pickL,List.mem_filterMap]
  constructor
  ·rintro ⟨i,hi,hx⟩
   exact ((counts_set h hx).1 ((ha.mem i).1 hi).2).1
  ·intro he
   obtain ⟨i,h1,h2⟩:=first_place he.1
   exact ⟨(i:Int),(ha.mem _).2 ⟨by omega,by simpa using (counts_set h h1).2 ⟨he,h2⟩⟩,by simpa using h1⟩
def clsR {E:Type} [DecidableEq E] (l:List E):List Int:=l.map fun x=>(l.findIdx (fun y=>decide (y=x)):Int)
theorem clsR_ok {E:Type} [DecidableEq E] (st:E→Gq10) (l:List E):ClsOk st l (clsR l):=by
 refine ⟨by simp [clsR],fun i x c hx hc=>?_⟩
 have hcx:c=(l.findIdx (fun y=>decide (y=x)):Int):=by simp [clsR,hx] at hc; exact hc.symm
 constructor
 ·intro h y hy hs
  obtain ⟨k,hk⟩:=List.getElem?_of_mem hy
  have:=h k y (l.findIdx (fun z=>decide (z=y)):Int) hk (by simp [clsR,hk]) hs
  rw [hcx] at this
  have hf:l.findIdx (fun z=>decide (z=y))=l.findIdx (fun z=>decide (z=x)):=by omega
  have hlt:l.findIdx (fun z=>decide (z=x))<l.length:=List.findIdx_lt_length_of_exists ⟨x,List.mem_of_getElem? hx,by simp⟩
  have e1:=List.findIdx_getElem (xs:=l) (p:=fun z=>decide (z=x)) (w:=hlt)
  have hlt2:l.findIdx (fun z=>decide (z=y))<l.length:=by rw [hf]; exact hlt
  have e2:=List.findIdx_getElem (xs:=l) (p:=fun z=>decide (z=y)) (w:=hlt2)
  simp only [decide_eq_true_eq] at e1 e2
  rw [← e1,← e2]
  simp only [hf]
 ·intro h k y d hy hd hs
  have:=h y (List.mem_of_getElem? hy) hs
  subst this
  simp [clsR,hy] at hd
  rw [hcx,← hd]
def clsP {E:Type} [DecidableEq E] (st:E→Gq10) (l:List E):List Int:=l.map fun x=>if l.find? (fun y=>decide (st y=st x))=some x then 0 else 1
theorem clsP_ok {E:Type} [DecidableEq E] (st:E→Gq10) (l:List E):ClsOk st l (clsP st l):=by
 refine ⟨by simp [clsP],fun i x c hx hc=>?_⟩
 have hcx:c=if l.find? (fun y=>decide (st y=st x))=some x then 0 else 1:=by simp [clsP,hx] at hc; exact hc.symm
 obtain ⟨f,hf⟩:∃ f,l.find? (fun y=>decide (st y=st x))=some f:=by
  cases h:l.find? (fun y=>decide (st y=st x)) with
  | none=>rw [List.find?_eq_none] at h; exact absurd (h x (List.mem_of_getElem? hx)) (by simp)
  | some f=>exact ⟨f,rfl⟩
 have hfs:st f=st x:=by simpa using List.find?_some hf
 have hfm:f ∈ l:=List.mem_of_find?_eq_some hf
 have hfc:∀ y,st y=st x→l.find? (fun z=>decide (st z=st y))=some f:=fun y hy=>by rw [hy]; exact hf
 constructor
 ·intro h
  obtain ⟨k,hk⟩:=List.getElem?_of_mem hfm
  have h0:=h k f 0 hk (by simp [clsP,hk,hfc f hfs]) hfs
  have hall:∀ y ∈ l,st y=st x→y=f:=fun y hy hs=>by
   obtain ⟨j,hj⟩:=List.getElem?_of_mem hy
   have:=h j y _ hj (by simp only [clsP,List.getElem?_map,hj,Option.map_some]; rfl) hs
   rw [← h0,hfc y hs] at this
   by_cases he:f=y
   ·exact he.symm
   ·rw [if_neg (by simpa using he)] at this; omega
  intro y hy hs
  rw [hall y hy hs,hall x (List.mem_of_getElem? hx) rfl]
 ·intro h k y d hy hd hs
  have:=h y (List.mem_of_getElem? hy) hs
  subst this
  simp only [clsP,List.getElem?_map,hy,Option.map_some,Option.some.injEq] at hd
  rw [hcx,← hd]
def evL {E:Type} [DecidableEq E] (st:E→Gq10) (l:List E):List E:=pickL l (canonL (l.map st) (clsR l))
theorem evL_is {E:Type} [DecidableEq E] (st:E→Gq10) (l:List E):IsEv st l (evL st l):=isEv_of (clsR_ok st l) (canonL_is _ _)
theorem evL_of {E:Type} [DecidableEq E] {st:E→Gq10} {l:List E} {cl:List Int} (h:ClsOk st l cl):pickL l (canonL (l.map st) cl)=evL st l :=
 (isEv_of h (canonL_is _ _)).unique (evL_is st l)
theorem canonL_lt {l:List Gq10} {cl:List Int} {i:Int} (h:i ∈ canonL l cl):0≤i∧i.toNat<l.length:=by
 have:=((canonL_is l cl).mem i).1 h; exact ⟨this.1,counts_lt this.2⟩
theorem evL_len {E:Type} [DecidableEq E] {st:E→Gq10} {l:List E} {cl:List Int} (h:ClsOk st l cl):(canonL (l.map st) cl).length=(evL st l).length:=by
 rw [← evL_of h,pickL_len]
 intro i hi; have:=(canonL_lt hi).2; simpa using this
theorem canonS_ev {E:Type} [DecidableEq E] {st:E→Gq10} {l:List E} {cl:List Int} (h:ClsOk st l cl):canonS (l.map st) cl=if 300<(evL st l).length then ([],3) else (canonL (l.map st) cl,0):=by
 have h1:=h.len
 unfold canonS
 rw [if_neg (by simpa using h1),evL_len h]
theorem isort_len {α:Type} {lt:α→α→Bool} (l:List α):(isort lt l).length=l.length:=perm_isort.length_eq
theorem canonL_len (l:List Gq10) (cl:List Int):(canonL l cl).length≤l.length:=by
 unfold canonL
 rw [isort_len,List.length_map]
 have:=List.length_filter_le (countsB l cl) (List.range l.length)
 simpa using this
theorem evL_le {E:Type} [DecidableEq E] (st:E→Gq10) (l:List E):(evL st l).length≤l.length:=by
 rw [← evL_len (clsR_ok st l)]
 have:=canonL_len (l.map st) (clsR l)
 simpa using this
def canonEv {E:Type} [DecidableEq E] (st:E→Gq10) (l:List E):List E × Int:=if 300<(evL st l).length then ([],3) else (evL st l,0)
theorem canonEv_congr {E:Type} [DecidableEq E] {st:E→Gq10} {l m:List E} (h:∀ e,e ∈ l ↔ e ∈ m):canonEv st l=canonEv st m:=by
 have:evL st l=evL st m:=((evL_is st l).congr h).unique (evL_is st m)
 unfold canonEv; rw [this]
theorem canonEv_small {E:Type} [DecidableEq E] {st:E→Gq10} {l:List E} (h:l.length≤300):canonEv st l=(evL st l,0):=by
 unfold canonEv; rw [if_neg (by have:=evL_le st l; omega)]
end Go.Sh
set_option linter.unusedVariables false
set_option linter.unusedSimpArgs false
namespace Go.Sh
open Go.L

theorem mget_mput {α β:Type} [DecidableEq α] (k k':α) (v:β):∀ m:List (α × β),mget (mput m k v) k'=if k'=k then some v else mget m k'
  | [] => by simp only [mput, mget]; by_cases h : k = k'
             · simp [h]
             · simp [h,Ne.symm h]
  | (a,b) :: r=>by
    simp only [mput]
    by_cases h:a=k
    · subst h
      simp only [if_true,mget]
      by_cases h2:a=k'
      · simp [h2]
      · simp [h2,Ne.symm h2]
    · simp only [h,if_false,mget,mget_mput k k' v r]
      by_cases h2:a=k'
      · subst h2; simp [h]
      · simp [h2]
theorem nxtN {i:Nat} (h:i<1000000000):i64 ((i:Int)+1)=((i+1:Nat):Int):=by rw [i64_of (by omega) (by omega)]; rfl
theorem idx_mid {α:Type} {p:List α} {x:α} {s:List α} {n:Nat} (h:p.length=n):idx (p++x :: s) (n:Int)=some x:=by rw [← h]; exact idx_at p x s
theorem set_mid {α:Type} {p:List α} {x y:α} {s:List α} {n:Nat} (h:p.length=n):(p++x :: s).set (n:Int).toNat y=p++y :: s:=by
 simp [← h]
theorem split_loop {F0:List Gq5} {p1:Gq5→Option Gq10} {p2:Gq5→Gq5→Option Bool} (hb:F0.length<1000000) (h1:∀ a ∈ F0,p1 a=some a.Stamp) (h2:∀ a ∈ F0,∀ b ∈ F0,p2 a b=some (decide (a=b))) (z:Gq10) :
  ∀ (s p:List Gq5) (n:Nat) (m:List (Gq10 × Int)),F0=p++s→s.length<n→(∀ x,mget m x=(p.findIdx? fun y=>decide (y.Stamp=x)).map Int.ofNat) →
   q9q F0 p1 p2 n (p.length:Int) (p.map (·.Stamp)++List.replicate s.length z) (p.map (fun x=>if F0.find? (fun y=>decide (y.Stamp=x.Stamp))=some x then 0 else 1)++List.replicate s.length 0) m
    = some (F0.map (·.Stamp),clsP (·.Stamp) F0):=by
 intro s
 induction s with
 | nil =>
  intro p n m hp hn hm
  cases n with
  | zero=>omega
  | succ n =>
   have:F0=p:=by simpa using hp
   subst this
   simp only [q9q,q21q,Int.lt_irrefl,decide_false,Bool.false_eq_true,if_false,List.length_nil,List.replicate_zero,List.append_nil,clsP]
 | cons x s ih =>
  intro p n m hp hn hm
  cases n with
  | zero=>omega
  | succ n =>
   have hx:x ∈ F0:=by rw [hp]; simp
   have hlen:p.length<1000000:=by rw [hp] at hb; simp at hb; omega
   have d1:decide ((p.length:Int)<(F0.length:Int))=true:=by rw [hp]; exact dlt p x s
   have i1:idx F0 (p.length:Int)=some x:=by rw [hp]; exact idx_at p x s
   simp only [q9q,q21q,d1,if_true,i1,Option.bind_some,h1 x hx,List.length_cons,List.replicate_succ]
   rw [idx_mid (by simp),set_mid (by simp),idx_mid (by simp)]
   simp only [Option.bind_some,nxtN (show p.length<1000000000 by omega),hm]
   have hlen':((p.length+1:Nat):Int)=((p++[x]).length:Int):=by simp
   have hst:p.map (·.Stamp)++x.Stamp :: List.replicate s.length z=(p++[x]).map (·.Stamp)++List.replicate s.length z:=by simp
   have hF:F0=(p++[x])++s:=by rw [hp]; simp
   have hfx:∀ q:Gq5→Bool,F0.find? q=((p.find? q).or (if q x then some x else s.find? q)):=fun q=>by
    rw [hp,List.find?_append,List.find?_cons]
    cases q x <;> simp
   cases hj:p.findIdx? (fun y=>decide (y.Stamp=x.Stamp)) with
   | none =>
    simp only [Option.map_none,Option.isSome_none,Bool.not_false,if_true]
    have hpn:p.find? (fun y=>decide (y.Stamp=x.Stamp))=.none:=by
     rw [List.findIdx?_eq_none_iff] at hj
     rw [List.find?_eq_none]; intro y hy; simpa using hj y hy
    have hc:F0.find? (fun y=>decide (y.Stamp=x.Stamp))=some x:=by rw [hfx,hpn]; simp
    have hcl:p.map (fun x=>if F0.find? (fun y=>decide (y.Stamp=x.Stamp))=some x then (0:Int) else 1)++0 :: List.replicate s.length 0=(p++[x]).map (fun x=>if F0.find? (fun y=>decide (y.Stamp=x.Stamp))=some x then (0:Int) else 1)++List.replicate s.length 0:=by
     simp [hc]
    rw [hcl,hst,hlen']
    refine ih (p++[x]) n _ hF (by simpa using hn) fun y=>?_
    rw [mget_mput,hm,List.findIdx?_append]
    by_cases hyx:y=x.Stamp
    ·subst hyx; simp [hj,List.findIdx?_cons]
    ·rw [if_neg hyx]
     cases p.findIdx? (fun z=>decide (z.Stamp=y)) with
     | none=>simp [List.findIdx?_cons,Ne.symm hyx]
     | some j=>simp
   | some j =>
    rw [List.findIdx?_eq_some_iff_getElem] at hj
    obtain ⟨hjl,hj1,hj2⟩:=hj
    simp only [decide_eq_true_eq] at hj1
    have hpf:p.find? (fun y=>decide (y.Stamp=x.Stamp))=some p[j]:=by
     rw [List.find?_eq_some_iff_getElem]
     exact ⟨by simpa using hj1,j,hjl,rfl,fun k hk=>by simpa using hj2 k hk⟩
    have hfj:idx F0 (j:Int)=some p[j]:=by
     rw [idx_nat,hp,List.getElem?_append_left hjl]; simp [hjl]
    have hpj:p[j] ∈ F0:=by rw [hp]; simp
    have hc:F0.find? (fun y=>decide (y.Stamp=x.Stamp))=some p[j]:=by rw [hfx,hpf]; simp
    simp only [Option.map_some,Option.isSome_some,Bool.not_true,Bool.false_eq_true,if_false,Option.getD_some]
    have hm':∀ y,mget m y=((p++[x]).findIdx? fun z=>decide (z.Stamp=y)).map Int.ofNat:=fun y=>by
     rw [hm,List.findIdx?_append]
     cases hq:p.findIdx? (fun z=>decide (z.Stamp=y)) with
     | some j=>simp
     | none =>
      have:¬ x.Stamp=y:=fun hxy=>by
       subst hxy
       rw [List.findIdx?_eq_none_iff] at hq
       have:=hq p[j] (by simp)
       simp [hj1] at this
      simp [List.findIdx?_cons,this]
    show (idx F0 ((j:Nat):Int)).bind _=_
    rw [hfj]
    simp only [Option.bind_some,h2 _ hpj _ hx]
    by_cases he:p[j]=x
    ·have hcl:p.map (fun x=>if F0.find? (fun y=>decide (y.Stamp=x.Stamp))=some x then (0:Int) else 1)++0 :: List.replicate s.length 0=(p++[x]).map (fun x=>if F0.find? (fun y=>decide (y.Stamp=x.Stamp))=some x then (0:Int) else 1)++List.replicate s.length 0:=by
      simp [hc,he]
     simp only [he,decide_true,Bool.not_true,Bool.false_eq_true,if_false]
     rw [hcl,hst,hlen']
     exact ih (p++[x]) n _ hF (by simpa using hn) hm'
    ·have hcl:p.map (fun x=>if F0.find? (fun y=>decide (y.Stamp=x.Stamp))=some x then (0:Int) else 1)++1 :: List.replicate s.length 0=(p++[x]).map (fun x=>if F0.find? (fun y=>decide (y.Stamp=x.Stamp))=some x then (0:Int) else 1)++List.replicate s.length 0:=by
      simp [hc,he]
     simp only [he,decide_false,Bool.not_false,if_true]
     rw [idx_mid (by simp),set_mid (by simp)]
     simp only [Option.bind_some]
     rw [hcl,hst,hlen']
     exact ih (p++[x]) n _ hF (by simpa using hn) hm'
theorem split_s {F:Nat} {l:List Gq5} {p1:Gq5→Option Gq10} {p2:Gq5→Gq5→Option Bool} (hb:l.length<1000000) (hF:l.length<F) (h1:∀ a ∈ l,p1 a=some a.Stamp) (h2:∀ a ∈ l,∀ b ∈ l,p2 a b=some (decide (a=b))) :
  q34q F l p1 p2=some (l.map (·.Stamp),clsP (·.Stamp) l):=by
 unfold q34q
 rw [mkl_of (by omega),Option.bind_some,mkl_of (by omega),Option.bind_some]
 exact split_loop hb h1 h2 _ l [] F [] rfl hF fun x=>by simp [mget]
theorem copiesCanonical_s {F:Nat} (h10:10≤F) {l:List Gq5} {p1:Gq5→Option Gq10} {p2:Gq5→Gq5→Option Bool} (hb:l.length<1000000) (hF:l.length<F) (h1:∀ a ∈ l,p1 a=some a.Stamp) (h2:∀ a ∈ l,∀ b ∈ l,p2 a b=some (decide (a=b))) :
  q22q F l p1 p2=some (canonS (l.map (·.Stamp)) (clsP (·.Stamp) l)):=by
 unfold q22q
 rw [split_s hb hF h1 h2]
 simp only [Option.bind_some]
 rw [canonical_e h10 (by simpa using hb) (by simpa using hF)]
 rfl
theorem fill_loop {l:List Gq5} {a:List Int} {c:Int} (ha:∀ i ∈ a,0≤i∧i.toNat<l.length) (hb:a.length<1000000) (z:Gq5):∀ (s p:List Int) (n:Nat),a=p++s→s.length<n →
  q29q l (a,c) n (p.length:Int) (pickL l p++List.replicate s.length z)=some (pickL l a,0):=by
 intro s
 induction s with
 | nil =>
  intro p n hp hn
  cases n with
  | zero=>omega
  | succ n =>
   have:a=p:=by simpa using hp
   subst this
   simp only [q29q,q41q,Int.lt_irrefl,decide_false,Bool.false_eq_true,if_false,List.length_nil,List.replicate_zero,List.append_nil]
 | cons x s ih =>
  intro p n hp hn
  cases n with
  | zero=>omega
  | succ n =>
   have hx:=ha x (by rw [hp]; simp)
   have hpl:(pickL l p).length=p.length:=pickL_len fun i hi=>(ha i (by rw [hp]; simp [hi])).2
   have hlen:p.length<1000000:=by rw [hp] at hb; simp at hb; omega
   have d1:decide ((p.length:Int)<(a.length:Int))=true:=by rw [hp]; exact dlt p x s
   have i1:idx a (p.length:Int)=some x:=by rw [hp]; exact idx_at p x s
   have i2:idx l x=some l[x.toNat]:=by rw [idx_some]; exact ⟨hx.1,by simp [hx.2]⟩
   simp only [q29q,q41q,d1,if_true,i1,i2,Option.bind_some,List.length_cons,List.replicate_succ]
   rw [idx_mid hpl,set_mid hpl]
   simp only [Option.bind_some,nxtN (show p.length<1000000000 by omega)]
   have e1:pickL l p++l[x.toNat] :: List.replicate s.length z=pickL l (p++[x])++List.replicate s.length z:=by simp [pickL,hx.2]
   have e2:((p.length+1:Nat):Int)=((p++[x]).length:Int):=by simp
   rw [e1,e2]
   exact ih (p++[x]) n (by simp [hp]) (by simpa using hn)
theorem canonicalP_s {F:Nat} (h10:10≤F) {l:List Gq5} (hb:l.length<1000000) (hF:l.length<F):q124q F l=some (canonEv (·.Stamp) l):=by
 unfold q124q
 rw [copiesCanonical_s (p1:=fun a0=>q126q a0) (p2:=(fun a0 a1=>q164q a0 a1)) h10 hb hF (fun a _=>rfl) (fun a _ b _=>rfl)]
 rw [canonS_ev (clsP_ok _ _)]
 simp only [Option.bind_some,canonEv]
 by_cases h:300<(evL (·.Stamp) l).length
 ·simp [h]
 ·have hlen:=canonL_len (l.map (·.Stamp)) (clsP (·.Stamp) l)
  rw [List.length_map] at hlen
  simp only [h,if_false,bne_self_eq_false,Bool.false_eq_true]
  rw [mkl_of (by omega)]
  simp only [Option.bind_some]
  rw [← evL_of (clsP_ok (·.Stamp) l)]
  refine fill_loop (fun i hi=>?_) (by omega) _ _ [] F rfl (Nat.lt_of_le_of_lt hlen hF)
  have:=canonL_lt hi
  exact ⟨this.1,by simpa using this.2⟩
end Go.Sh
set_option linter.unusedVariables false
set_option linter.unusedSimpArgs false
namespace Go.Sh
open Go.L

theorem torder_s {F:Nat} {t:GTape} (ht:Tp t) {m:Nat} (hm:m≤1000) (hF:m<F):∃ o t',Gq32 F t m=some (o,t')∧Tp t'∧o.length=m∧∀ x,x ∈ o ↔ 0≤x∧x<m:=by
 have key:∀ n (l1:List Int) (k:Int) (L:List Int) (A:Int),(∃ j:Nat,k=j∧j≤m∧Tp (GTape.mk L A)∧l1.length=j∧∀ x,x ∈ l1 ↔ 0≤x∧x<j)→(m - k.toNat)<n→∃ r,Gq33 m n l1 k L A=some r∧(Tp r.2∧r.1.length=m∧∀ x,x ∈ r.1 ↔ 0≤x∧x<m):=by
  refine loop4 (L:=Gq33 m) (B:=Gq34 m) (fun _=>rfl) _ (fun (_:List Int) (k:Int) (_:List Int) (_:Int)=>m - k.toNat) _ ?_
  rintro rec l1 k L A ⟨j,rfl,hj,ht,hl,hx⟩ hrec
  unfold Gq34
  by_cases hlt:j<m
  ·have d1:decide ((j:Int)<(m:Int))=true:=by simp; exact hlt
   have hw:i64 ((j:Int)+1)=((j+1:Nat):Int):=by rw [i64_of (by omega) (by omega)]; omega
   obtain ⟨q,t1,h1,h2,h3,h4,_⟩:=next_s ht ((j+1:Nat):Int) (by omega)
   have:=h4 (by omega)
   obtain ⟨p,rfl⟩:∃ p:Nat,q=p:=⟨q.toNat,by omega⟩
   simp only [d1,if_true,hw,h1,Option.bind_some]
   rw [slc_take (by omega),slc_drop (by omega)]
   simp only [Option.bind_some]
   rw [app_of (by simp; omega)]
   simp only [Option.bind_some,List.nil_append]
   rw [app_of (by simp; omega)]
   simp only [Option.bind_some]
   rw [app_of (by simp; omega)]
   simp only [Option.bind_some]
   refine hrec _ _ _ _ ⟨j+1,rfl,by omega,h2,by simp; omega,fun x=>?_⟩ (by simp; omega)
   have hsplit:x ∈ l1 ↔ x ∈ l1.take p ∨ x ∈ l1.drop p:=by rw [← List.mem_append,List.take_append_drop]
   simp only [List.mem_append,List.mem_singleton]
   rw [hx] at hsplit
   constructor
   ·rintro ((h | h) | h)
    ·have:=hsplit.2 (.inl h); omega
    ·omega
    ·have:=hsplit.2 (.inr h); omega
   ·rintro ⟨a1,a2⟩
    by_cases he:x=(j:Int)
    ·exact .inl (.inr he)
    ·rcases hsplit.1 ⟨a1,by omega⟩ with h | h
     ·exact .inl (.inl h)
     ·exact .inr h
  ·have d1:decide ((j:Int)<(m:Int))=false:=by simp; omega
   have:j=m:=by omega
   subst this
   simp only [d1,Bool.false_eq_true,if_false]
   exact ⟨_,rfl,ht,hl,hx⟩
 obtain ⟨⟨o,t'⟩,h1,h2⟩:=key F [] 0 t.L t.At ⟨0,rfl,by omega,ht,rfl,fun x=>by simp only [List.not_mem_nil,false_iff]; omega⟩ (by simpa using hF)
 exact ⟨o,t',h1,h2⟩
theorem mixed_s {F:Nat} {t:GTape} (ht:Tp t) {m:Nat} (hm:m≤1000) (hF:m<F) (hF2:10≤F):∃ o t',Gq24 F t m=some (o,t')∧Tp t'∧o.length≤m+3∧∀ x,x ∈ o ↔ 0≤x∧x<m:=by
 have key:∀ n (l3:List Int) (k:Int) (L:List Int) (A:Int),(0≤k∧Tp (GTape.mk L A)∧(l3.length:Int)+k≤m+3∧∀ x,x ∈ l3 ↔ 0≤x∧x<m)→k.toNat<n→∃ r,Gq25 m n l3 k L A=some r∧(Tp r.2∧r.1.length≤m+3∧∀ x,x ∈ r.1 ↔ 0≤x∧x<m):=by
  refine loop4 (L:=Gq25 m) (B:=Gq26 m) (fun _=>rfl) _ (fun (_:List Int) (k:Int) (_:List Int) (_:Int)=>k.toNat) _ ?_
  rintro rec l3 k L A ⟨hk,ht,hl,hx⟩ hrec
  unfold Gq26
  by_cases hgo:k > 0∧(m:Int) > 0
  ·have d1:(decide (k > 0) && decide ((m:Int) > 0))=true:=by simp only [hgo.1,hgo.2,decide_true,Bool.and_self]
   have hw:i64 ((l3.length:Int)+1)=((l3.length+1:Nat):Int):=by rw [i64_of (by omega) (by omega)]; omega
   obtain ⟨q,t1,h1,h2,h3,h4,_⟩:=next_s ht ((l3.length+1:Nat):Int) (by omega)
   have:=h4 (by omega)
   obtain ⟨p,rfl⟩:∃ p:Nat,q=p:=⟨q.toNat,by omega⟩
   obtain ⟨y,t2,h5,h6,h7,h8,_⟩:=next_s h2 (m:Int) (by omega)
   have:=h8 (by omega)
   simp only [d1,if_true,hw,h1,h5,Option.bind_some]
   rw [slc_take (by omega),slc_drop (by omega)]
   simp only [Option.bind_some]
   rw [app_of (by simp; omega)]
   simp only [Option.bind_some,List.nil_append]
   rw [app_of (by simp; omega)]
   simp only [Option.bind_some]
   rw [app_of (by simp; omega)]
   simp only [Option.bind_some]
   rw [i64_of (by omega) (by omega)]
   refine hrec _ _ _ _ ⟨by omega,h6,by simp; omega,fun x=>?_⟩ (by omega)
   have hsplit:x ∈ l3 ↔ x ∈ l3.take p ∨ x ∈ l3.drop p:=by rw [← List.mem_append,List.take_append_drop]
   simp only [List.mem_append,List.mem_singleton]
   rw [hx] at hsplit
   constructor
   ·rintro ((h | h) | h)
    ·exact hsplit.2 (.inl h)
    ·omega
    ·exact hsplit.2 (.inr h)
   ·intro h
    rcases hsplit.1 h with h | h
    ·exact .inl (.inl h)
    ·exact .inr h
  ·have d1:(decide (k > 0) && decide ((m:Int) > 0))=false:=by
    rw [Bool.and_eq_false_iff,decide_eq_false_iff_not,decide_eq_false_iff_not]; omega
   simp only [d1,Bool.false_eq_true,if_false]
   exact ⟨_,rfl,ht,by simp only; omega,hx⟩
 obtain ⟨o,t1,h1,h2,h3,h4⟩:=torder_s (F:=F) ht hm hF
 obtain ⟨q,t2,h5,h6,h7,h8,_⟩:=next_s h2 4 (by omega)
 have:=h8 (by omega)
 obtain ⟨⟨o',t'⟩,h9,h10⟩:=key F o q t2.L t2.At ⟨h7,h6,by omega,h4⟩ (by omega)
 exact ⟨o',t',by simp only [Gq24,h1,h5,Option.bind_some]; exact h9,h10⟩
end Go.Sh
set_option linter.unusedVariables false
set_option linter.unusedSimpArgs false
namespace Go.Sh
open Go.L

def run {α σ R:Type} (g:Nat→α→σ→R ⊕ σ) (e:σ→R):Nat→List α→σ→R
 | _,[],s=>e s
 | i,x :: l,s=>match g i x s with | .inl r=>r | .inr s'=>run g e (i+1) l s'
def scan {α R:Type} (g:Nat→α→Option R) (e:R):Nat→List α→R
 | _,[]=>e
 | i,x :: l=>match g i x with | some r=>r | .none=>scan g e (i+1) l
theorem scanLoop {α R:Type} {a:List α} {L:Nat→Int→Option R} (g:Nat→α→Option R) (e:R) {F:Nat} (hb:a.length<1000000)
  (hS:∀ n (i:Nat) x,a[i]?=some x→i<1000000→L (n+1) (i:Int)=match g i x with | some r=>some r | .none=>L n ((i+1:Nat):Int))
  (hE:∀ n,L (n+1) (a.length:Int)=some e) (hF:a.length<F):L F 0=some (scan g e 0 a):=by
 have key:∀ (l p:List α) (n:Nat),a=p++l→l.length<n→L n (p.length:Int)=some (scan g e p.length l):=by
  intro l
  induction l with
  | nil=>intro p n hp hn; cases n with
   | zero=>omega
   | succ n =>
    have:a=p:=by simpa using hp
    subst this
    rw [hE n]; rfl
  | cons x l ih=>intro p n hp hn; cases n with
   | zero=>omega
   | succ n =>
    have hx:a[p.length]?=some x:=by rw [hp]; simp
    have hl:p.length<1000000:=by rw [hp] at hb; simp at hb; omega
    rw [hS n p.length x hx hl]
    unfold scan
    cases hg:g p.length x with
    | some r=>rfl
    | none =>
     simp only
     have e1:p.length+1=(p++[x]).length:=by simp
     rw [e1]
     exact ih (p++[x]) n (by rw [hp]; simp) (by simpa using hn)
 exact key a [] F rfl hF
theorem dltN {α:Type} {a:List α} {i:Nat} {x:α} (h:a[i]?=some x):decide ((i:Int)<(a.length:Int))=true:=by
 have:=(List.getElem?_eq_some_iff.1 h).1; simp; omega
theorem dgeN (n:Nat):decide ((n:Int)<(n:Int))=false:=by simp
theorem idxN {α:Type} {a:List α} {i:Nat} {x:α} (h:a[i]?=some x):idx a (i:Int)=some x:=by rw [idx_nat,h]
theorem nxtI {i:Nat} (h:i<1000000):i64 ((i:Int)+1)=((i+1:Nat):Int):=by rw [i64_of (by omega) (by omega)]; rfl
theorem bEq {a b:Bool} (h:a=true ↔ b=true):a=b:=by cases a <;> cases b <;> simp_all
end Go.Sh
set_option linter.unusedVariables false
set_option linter.unusedSimpArgs false
namespace Go.Sh
open Go.L

abbrev Suc {α:Type} (x:Option α) (P:α→Prop):Prop:=∃ a,x=some a∧P a
theorem Suc.bind {α β:Type} {x:Option α} {f:α→Option β} {P:α→Prop} {Q:β→Prop} (h:Suc x P) (k:∀ a,P a→Suc (f a) Q):Suc (x.bind f) Q:=by
 obtain ⟨a,rfl,ha⟩:=h; exact k a ha
theorem Suc.pure {α:Type} {a:α} {P:α→Prop} (h:P a):Suc (some a) P:=⟨a,rfl,h⟩
theorem Suc.ite {α:Type} {c:Prop} [Decidable c] {a b:Option α} {P:α→Prop} (h1:c→Suc a P) (h2:¬ c→Suc b P):Suc (if c then a else b) P:=by
 by_cases h:c
 ·rw [if_pos h]; exact h1 h
 ·rw [if_neg h]; exact h2 h
theorem Suc.app {α β:Type} {xs ys:List α} {f:List α→Option β} {Q:β→Prop} (h:xs.length+ys.length≤549755813888) (k:Suc (f (xs++ys)) Q):Suc ((app xs ys).bind f) Q:=by
 rw [app_of h]; exact k
theorem Suc.at {α β:Type} {l:List α} {i:Nat} {x:α} {f:α→Option β} {Q:β→Prop} (h:l[i]?=some x) (k:Suc (f x) Q):Suc ((idx l (i:Int)).bind f) Q:=by
 rw [idxN h]; exact k
theorem Suc.imp {α:Type} {x:Option α} {P Q:α→Prop} (h:Suc x P) (k:∀ a,P a→Q a):Suc x Q:=by obtain ⟨a,h1,h2⟩:=h; exact ⟨a,h1,k a h2⟩

abbrev mbr (M:List (List Int)) (r:Nat):List Int:=M.getD r []
abbrev rmo (p:List Int) (c:Nat):Int:=p.getD c (-1)
abbrev vis (V:List Bool) (r:Nat):Bool:=V.getD r false
def suitB (c0:List GRoom) (c2:List GNeed) (r c:Nat):Bool:=match c0[r]?,c2[c]? with
 | some x,some y=>annI .i64 y.Needs x.Offers == 0
 | _,_=>false
theorem mbr_set {M:List (List Int)} {i:Nat} {l:List Int} (h:i<M.length) (r:Nat):mbr (M.set i l) r=if r=i then l else mbr M r:=by
 by_cases hr:r=i
 ·subst hr; simp [mbr,List.getD,h]
 ·rw [if_neg hr]; simp [mbr,List.getD,List.getElem?_set_ne (Ne.symm hr)]
theorem rmo_set {p:List Int} {i:Nat} {v:Int} (h:i<p.length) (c:Nat):rmo (p.set i v) c=if c=i then v else rmo p c:=by
 by_cases hr:c=i
 ·subst hr; simp [rmo,List.getD,h]
 ·rw [if_neg hr]; simp [rmo,List.getD,List.getElem?_set_ne (Ne.symm hr)]
theorem vis_set {V:List Bool} {i:Nat} (h:i<V.length) (r:Nat):vis (V.set i true) r=if r=i then true else vis V r:=by
 by_cases hr:r=i
 ·subst hr; simp [vis,List.getD,h]
 ·rw [if_neg hr]; simp [vis,List.getD,List.getElem?_set_ne (Ne.symm hr)]
theorem mbr_get {M:List (List Int)} {r:Nat} (h:r<M.length):M[r]?=some (mbr M r):=by simp [mbr,List.getD,h]
theorem rmo_get {p:List Int} {c:Nat} (h:c<p.length):p[c]?=some (rmo p c):=by simp [rmo,List.getD,h]
theorem vis_get {V:List Bool} {r:Nat} (h:r<V.length):V[r]?=some (vis V r):=by simp [vis,List.getD,h]
structure WF (c0:List GRoom) (c2:List GNeed) (M:List (List Int)) (p:List Int):Prop where
 lM:M.length=c0.length
 lp:p.length=c2.length
 mem:∀ r x,x ∈ mbr M r→0≤x∧x.toNat<c2.length∧suitB c0 c2 r x.toNat=true∧rmo p x.toNat=(r:Int)
 nod:∀ r,(mbr M r).Nodup
 cap:∀ (r:Nat) y,c0[r]?=some y→((mbr M r).length:Int)≤y.Rows * y.Cols
 plc:∀ x:Nat,0≤rmo p x→(rmo p x).toNat<c0.length∧(x:Int) ∈ mbr M (rmo p x).toNat
structure Won (c0:List GRoom) (c2:List GNeed) (M:List (List Int)) (p:List Int) (c:Nat) (V:List Bool) (M':List (List Int)) (p':List Int):Prop where
 lM:M'.length=c0.length
 lp:p'.length=c2.length
 mem:∀ r x,x ∈ mbr M' r→0≤x∧x.toNat<c2.length∧suitB c0 c2 r x.toNat=true∧(rmo p' x.toNat=(r:Int) ∨ (x.toNat=c∧rmo p c=(r:Int)))
 nod:∀ r,(mbr M' r).Nodup
 cap:∀ (r:Nat) y,c0[r]?=some y→((mbr M' r).length:Int)≤y.Rows * y.Cols
 plc:∀ x:Nat,0≤rmo p' x→(rmo p' x).toNat<c0.length∧(x:Int) ∈ mbr M' (rmo p' x).toNat
 kept:∀ x:Nat,0≤rmo p x→0≤rmo p' x
 same:∀ r,vis V r=true→mbr M' r=mbr M r
 old:∀ x:Nat,x ≠ c→(rmo p x<0 ∨ vis V (rmo p x).toNat=true)→rmo p' x=rmo p x
 now:0≤rmo p' c∧vis V (rmo p' c).toNat=false
theorem Won.wf {c0:List GRoom} {c2:List GNeed} {M:List (List Int)} {p:List Int} {c:Nat} {V:List Bool} {M':List (List Int)} {p':List Int} (h:Won c0 c2 M p c V M' p') (hc:rmo p c<0):WF c0 c2 M' p' :=
 ⟨h.lM,h.lp,fun r x hx=>by
  obtain ⟨h1,h2,h3,h4⟩:=h.mem r x hx
  refine ⟨h1,h2,h3,h4.elim id fun h5=>?_⟩
  omega,h.nod,h.cap,h.plc⟩
section
variable {c0:List GRoom} {c2:List GNeed} {M:List (List Int)} {p:List Int} {c n:Nat} {V:List Bool}
theorem notin (h:WF c0 c2 M p) (hold:0≤rmo p c→vis V (rmo p c).toNat=true) (hv:vis V n=false):(c:Int) ∉ mbr M n:=fun hx=>by
 have:=(h.mem n _ hx).2.2.2
 rw [Int.toNat_natCast] at this
 have h2:=hold (by omega)
 rw [this,Int.toNat_natCast,hv] at h2
 cases h2
theorem won_here (h:WF c0 c2 M p) (hc:c<c2.length) (hold:0≤rmo p c→vis V (rmo p c).toNat=true) (hn:n<c0.length) (hs:suitB c0 c2 n c=true) (hv:vis V n=false)
  {y:GRoom} (hy:c0[n]?=some y) (hroom:((mbr M n).length:Int)<y.Rows * y.Cols):Won c0 c2 M p c V (M.set n (mbr M n++[(c:Int)])) (p.set c (n:Int)):=by
 have hnM:n<M.length:=by rw [h.lM]; exact hn
 have hcp:c<p.length:=by rw [h.lp]; exact hc
 have hni:=notin h hold hv
 have hmb:=fun r=>mbr_set (l:=mbr M n++[(c:Int)]) hnM r
 have hrm:=fun x=>rmo_set (v:=(n:Int)) hcp x
 refine ⟨by simp [h.lM],by simp [h.lp],fun r x hx=>?_,fun r=>?_,fun r z hz=>?_,fun x hx=>?_,fun x hx=>?_,fun r hr=>?_,fun x hx ho=>?_,?_⟩
 ·rw [hmb] at hx
  split at hx
  ·rename_i hr
   subst hr
   rcases List.mem_append.1 hx with hx | hx
   ·obtain ⟨h1,h2,h3,h4⟩:=h.mem _ _ hx
    refine ⟨h1,h2,h3,.inl ?_⟩
    rw [hrm,if_neg]
    ·exact h4
    ·intro he
     apply hni
     rw [← he,Int.toNat_of_nonneg h1]; exact hx
   ·have:x=(c:Int):=by simpa using hx
    subst this
    refine ⟨by omega,by simpa using hc,by simpa using hs,.inl ?_⟩
    rw [hrm,if_pos (by simp)]
  ·obtain ⟨h1,h2,h3,h4⟩:=h.mem _ _ hx
   refine ⟨h1,h2,h3,?_⟩
   rw [hrm]
   split
   ·rename_i he
    rw [he] at h4
    exact .inr ⟨he,h4⟩
   ·exact .inl h4
 ·rw [hmb]
  split
  ·rw [List.nodup_append]
   exact ⟨h.nod n,by simp,fun a ha b hb=>by
    have:b=(c:Int):=by simpa using hb
    subst this
    intro he; subst he; exact hni ha⟩
  ·exact h.nod r
 ·rw [hmb]
  split
  ·rename_i hr
   subst hr
   rw [hy] at hz
   cases hz
   have:(mbr M r++[(c:Int)]).length=(mbr M r).length+1:=by rw [List.length_append]; rfl
   rw [this]; omega
  ·exact h.cap r z hz
 ·rw [hrm] at hx ⊢
  split
  ·rename_i he
   subst he
   refine ⟨by simpa using hn,?_⟩
   rw [Int.toNat_natCast,hmb,if_pos rfl]
   simp
  ·rename_i he
   rw [if_neg he] at hx
   obtain ⟨h1,h2⟩:=h.plc x hx
   refine ⟨h1,?_⟩
   rw [hmb]
   split
   ·rename_i hh
    rw [hh] at h2
    exact List.mem_append.2 (.inl h2)
   ·exact h2
 ·rw [hrm]
  split
  ·omega
  ·exact hx
 ·rw [hmb,if_neg]
  intro he; subst he; rw [hv] at hr; cases hr
 ·rw [hrm,if_neg hx]
 ·rw [hrm,if_pos rfl]
  exact ⟨by omega,by simpa using hv⟩
theorem won_there (h:WF c0 c2 M p) (hc:c<c2.length) (hold:0≤rmo p c→vis V (rmo p c).toNat=true) (hn:n<c0.length) (hs:suitB c0 c2 n c=true) (hv:vis V n=false)
  {V1:List Bool} (hV:∀ r,vis V r=true→vis V1 r=true) (hV1:vis V1 n=true) {k y:Nat} (hk:(mbr M n)[k]?=some (y:Int)) {M1:List (List Int)} {p1:List Int} (w:Won c0 c2 M p y V1 M1 p1) :
  Won c0 c2 M p c V (M1.set n ((mbr M1 n).set k (c:Int))) (p1.set c (n:Int)):=by
 have hnM:n<M1.length:=by rw [w.lM]; exact hn
 have hcp:c<p1.length:=by rw [w.lp]; exact hc
 have hni:=notin h hold hv
 have hsm:=w.same n hV1
 rw [hsm]
 have hmb:=fun r=>mbr_set (l:=(mbr M n).set k (c:Int)) hnM r
 have hrm:=fun x=>rmo_set (v:=(n:Int)) hcp x
 have hyn:(y:Int) ∈ mbr M n:=List.mem_of_getElem? hk
 have hyr:rmo p y=(n:Int):=by have:=(h.mem _ _ hyn).2.2.2; simpa using this
 have hyc:y ≠ c:=by intro he; subst he; exact hni hyn
 have hkl:k<(mbr M n).length:=(List.getElem?_eq_some_iff.1 hk).1
 have hcold:rmo p1 c=rmo p c:=w.old c (Ne.symm hyc) (by
  by_cases h0:rmo p c<0
  ·exact .inl h0
  ·exact .inr (hV _ (hold (by omega))))
 have hin:∀ x,x ∈ (mbr M n).set k (c:Int)→x=(c:Int) ∨ (x ∈ mbr M n∧x ≠ (y:Int)):=by
  intro x hx
  obtain ⟨j,hj,rfl⟩:=List.getElem_of_mem hx
  have hj':j<(mbr M n).length:=by simpa using hj
  by_cases hjk:j=k
  ·subst hjk; left; simp
  ·right
   rw [List.getElem_set_ne (Ne.symm hjk)]
   refine ⟨List.getElem_mem _,fun he=>hjk ?_⟩
   have h1:(mbr M n)[k]=(y:Int):=(List.getElem?_eq_some_iff.1 hk).2
   exact (List.getElem_inj (h.nod n)).1 (he.trans h1.symm)
 have hout:∀ x,x ∈ mbr M n→x ≠ (y:Int)→x ∈ (mbr M n).set k (c:Int):=by
  intro x hx hne
  obtain ⟨j,hj,rfl⟩:=List.getElem_of_mem hx
  have hjk:k ≠ j:=by
   rintro rfl
   exact hne (List.getElem?_eq_some_iff.1 hk).2
  exact List.mem_iff_getElem.2 ⟨j,by simpa using hj,List.getElem_set_ne hjk _⟩
 refine ⟨by simp [w.lM],by simp [w.lp],fun r x hx=>?_,fun r=>?_,fun r z hz=>?_,fun x hx=>?_,fun x hx=>?_,fun r hr=>?_,fun x hx ho=>?_,?_⟩
 ·rw [hmb] at hx
  split at hx
  ·rename_i hr
   subst hr
   rcases hin x hx with rfl | ⟨hx,hne⟩
   ·refine ⟨by omega,by simpa using hc,by simpa using hs,.inl ?_⟩
    rw [hrm,if_pos (by simp)]
   ·rw [← hsm] at hx
    obtain ⟨h1,h2,h3,h4⟩:=w.mem _ _ hx
    refine ⟨h1,h2,h3,.inl ?_⟩
    rw [hsm] at hx
    rw [hrm,if_neg]
    ·rcases h4 with h4 | ⟨h4,_⟩
     ·exact h4
     ·omega
    ·intro he
     apply hni
     rw [← he,Int.toNat_of_nonneg h1]; exact hx
  ·rename_i hr
   obtain ⟨h1,h2,h3,h4⟩:=w.mem _ _ hx
   refine ⟨h1,h2,h3,?_⟩
   have h5:rmo p1 x.toNat=(r:Int):=by
    rcases h4 with h4 | ⟨h4,h5⟩
    ·exact h4
    ·rw [hyr] at h5; omega
   rw [hrm]
   split
   ·rename_i he
    rw [he,hcold] at h5
    exact .inr ⟨he,h5⟩
   ·exact .inl h5
 ·rw [hmb]
  split
  ·rw [List.nodup_iff_pairwise_ne,List.pairwise_iff_getElem]
   intro i j hi hj hij
   have hi':i<(mbr M n).length:=by simpa using hi
   have hj':j<(mbr M n).length:=by simpa using hj
   rw [List.getElem_set,List.getElem_set]
   split
   ·split
    ·omega
    ·intro he; apply hni; rw [he]; exact List.getElem_mem _
   ·split
    ·intro he; apply hni; rw [← he]; exact List.getElem_mem _
    ·intro he
     have:=(List.getElem_inj (h.nod n)).1 he
     omega
  ·exact w.nod r
 ·rw [hmb]
  split
  ·rename_i hr
   subst hr
   rw [List.length_set]; exact h.cap _ _ hz
  ·exact w.cap r z hz
 ·rw [hrm] at hx ⊢
  split
  ·rename_i he
   subst he
   refine ⟨by simpa using hn,?_⟩
   rw [Int.toNat_natCast,hmb,if_pos rfl]
   exact List.mem_iff_getElem.2 ⟨k,by simpa using hkl,by simp⟩
  ·rename_i he
   rw [if_neg he] at hx
   obtain ⟨h1,h2⟩:=w.plc x hx
   refine ⟨h1,?_⟩
   rw [hmb]
   split
   ·rename_i hh
    rw [hh,hsm] at h2
    refine hout _ h2 fun hxy=>?_
    have hxy':x=y:=by omega
    subst hxy'
    have:=w.now.2
    rw [hh,hV1] at this
    cases this
   ·exact h2
 ·rw [hrm]
  split
  ·omega
  ·exact w.kept x hx
 ·rw [hmb,if_neg,w.same r (hV r hr)]
  intro he; subst he; rw [hv] at hr; cases hr
 ·rw [hrm,if_neg hx]
  refine w.old x ?_ (ho.imp id (hV _))
  rintro rfl
  rcases ho with ho | ho
  ·omega
  ·rw [hyr,Int.toNat_natCast,hv] at ho; cases ho
 ·rw [hrm,if_pos rfl]
  exact ⟨by omega,by simpa using hv⟩
end
end Go.Sh
set_option linter.unusedVariables false
set_option linter.unusedSimpArgs false
namespace Go.Sh
open Go.L

def Shut (c0:List GRoom) (c2:List GNeed) (M:List (List Int)) (V V':List Bool):Prop:=∀ r,vis V' r=true→vis V r=false→(∃ y,c0[r]?=some y∧((mbr M r).length:Int)=y.Rows * y.Cols)∧∀ x ∈ mbr M r,∀ r',suitB c0 c2 r' x.toNat=true→vis V' r'=true
structure Lost (c0:List GRoom) (c2:List GNeed) (M:List (List Int)) (c:Nat) (V V':List Bool):Prop where
 len:V'.length=V.length
 grow:∀ r,vis V r=true→vis V' r=true
 all:∀ r,suitB c0 c2 r c=true→vis V' r=true
 shut:Shut c0 c2 M V V'
def Found (c0:List GRoom) (c2:List GNeed) (M:List (List Int)) (p:List Int) (c:Nat) (V:List Bool) (r:Bool × List Bool × List (List Int) × List Int):Prop :=
 (r.1=true→Won c0 c2 M p c V r.2.2.1 r.2.2.2)∧(r.1=false→Lost c0 c2 M c V r.2.1∧r.2.2.1=M∧r.2.2.2=p)
def roomOk (y:GRoom):Prop:=1≤y.Rows∧y.Rows≤8∧1≤y.Cols∧y.Cols≤8
theorem seats_b {y:GRoom} (h:roomOk y):1≤y.Rows * y.Cols∧y.Rows * y.Cols≤64:=by
 obtain ⟨h1,h2,h3,h4⟩:=h
 constructor
 ·have:=Int.mul_le_mul h1 h3 (by omega) (by omega); omega
 ·have:=Int.mul_le_mul h2 h4 (by omega) (by omega); omega
theorem seats_s {y:GRoom} (h:roomOk y):q38q y=some (y.Rows * y.Cols):=by
 have:=seats_b h
 unfold q38q; rw [i64_of (by omega) (by omega)]
theorem suit_lt {c0:List GRoom} {c2:List GNeed} {r c:Nat} (h:suitB c0 c2 r c=true):r<c0.length∧c<c2.length:=by
 unfold suitB at h
 split at h
 ·rename_i h1 h2
  exact ⟨(List.getElem?_eq_some_iff.1 h1).1,(List.getElem?_eq_some_iff.1 h2).1⟩
 ·cases h
theorem suit_at {c0:List GRoom} {c2:List GNeed} {r c:Nat} {y:GRoom} {z:GNeed} (h1:c0[r]?=some y) (h2:c2[c]?=some z):q30q y z=some (suitB c0 c2 r c):=by
 unfold suitB q30q; rw [h1,h2]
theorem count_le:∀ {V W:List Bool},V.length=W.length→(∀ r,vis V r=true→vis W r=true)→W.count false≤V.count false
 | [],[],_,_=>Nat.le_refl _
 | a :: V,b :: W,hl,h=>by
  have ih:=count_le (V:=V) (W:=W) (by simpa using hl) fun r hr=>by simpa [vis] using h (r+1) (by simpa [vis] using hr)
  have h0:a=true→b=true:=by simpa [vis] using h 0
  cases a <;> cases b <;> simp_all <;> omega
theorem count_lt:∀ {V W:List Bool} {i:Nat},V.length=W.length→(∀ r,vis V r=true→vis W r=true)→vis V i=false→vis W i=true→W.count false<V.count false
 | [],[],i,_,_,_,h2=>by simp [vis] at h2
 | a :: V,b :: W,0,hl,h,h1,h2=>by
  have ih:=count_le (V:=V) (W:=W) (by simpa using hl) fun r hr=>by simpa [vis] using h (r+1) (by simpa [vis] using hr)
  have ha:a=false:=by simpa [vis] using h1
  have hb:b=true:=by simpa [vis] using h2
  subst ha; subst hb
  simp; omega
 | a :: V,b :: W,i+1,hl,h,h1,h2=>by
  have ih:=count_lt (V:=V) (W:=W) (i:=i) (by simpa using hl) (fun r hr=>by simpa [vis] using h (r+1) (by simpa [vis] using hr)) (by simpa [vis] using h1) (by simpa [vis] using h2)
  have h0:a=true→b=true:=by simpa [vis] using h 0
  cases a <;> cases b <;> simp_all <;> omega

theorem aug {c0:List GRoom} {c2:List GNeed} {M:List (List Int)} {p:List Int} (hR:c0.length≤8) (hN:c2.length≤60) (hg:∀ y ∈ c0,roomOk y) (h:WF c0 c2 M p) :
  ∀ (u F:Nat) (V:List Bool) (c:Nat),V.length=c0.length→V.count false≤u→70+u<F→c<c2.length→(0≤rmo p c→vis V (rmo p c).toNat=true)→Suc (q15q F (c:Int) c0 V c2 M p) (Found c0 c2 M p c V):=by
 intro u
 induction u with
 | zero=>?_
 | succ u ihu=>?_
 all_goals
  intro F V c hVl hcnt hF hc hold
  obtain ⟨F,rfl⟩:∃ G,F=G+1:=⟨F - 1,by omega⟩
  unfold q15q
  refine loop4 (L:=q68q F (q15q F) (c:Int) c0 c2) (B:=q42q F (q15q F) (c:Int) c0 c2) (fun _=>rfl)
   (fun n1 l2 l3 l4=>∃ i:Nat,n1=i∧i≤c0.length∧l3=M∧l4=p∧l2.length=c0.length∧(∀ r,vis V r=true→vis l2 r=true)∧(∀ r,r<i→suitB c0 c2 r c=true→vis l2 r=true)∧Shut c0 c2 M V l2)
   (fun n1 _ _ _=>c0.length - n1.toNat) (Found c0 c2 M p c V) ?_ F 0 V M p ⟨0,rfl,by omega,rfl,rfl,hVl,fun _ h=>h,fun r hr=>by omega,fun r h1 h2=>by rw [h1] at h2; cases h2⟩ (by omega)
  rintro rec n1 l2 l3 l4 ⟨i,rfl,hi,e3,e4,hl2,hgr,hall,hsh⟩ ih
  subst l3; subst l4
  unfold q42q
  refine Suc.ite (fun hlt=>?_) fun hlt=>?_
  rotate_left
  ·have hiR:i=c0.length:=by simp at hlt; omega
   refine Suc.pure ⟨fun h=>by (cases h),fun _=>⟨⟨by rw [hl2,hVl],hgr,fun r hr=>hall r (by rw [hiR]; exact (suit_lt hr).1) hr,hsh⟩,rfl,rfl⟩⟩
  have hiR:i<c0.length:=by simpa using hlt
  have hy:c0[i]?=some c0[i]:=by simp
  have hz:c2[c]?=some c2[c]:=by simp
  have hyo:roomOk c0[i]:=hg _ (List.getElem_mem _)
  have hnx:i64 ((i:Int)+1)=((i+1:Nat):Int):=nxtI (by omega)
  have hw:((idx l2 (i:Int)).bind fun x8=>if x8=true then some true else (idx c0 (i:Int)).bind fun x10=>(idx c2 (c:Int)).bind fun x11=>(q30q x10 x11).bind fun r12=>some (!r12))=some (vis l2 i || !suitB c0 c2 i c):=by
   rw [idxN (vis_get (by omega:i<l2.length)),Option.bind_some,idxN hy,idxN hz]
   simp only [Option.bind_some,suit_at hy hz]
   cases vis l2 i <;> simp
  rw [hw,Option.bind_some]
  refine Suc.ite (fun hb=>?_) fun hb=>?_
  ·rw [hnx]
   refine ih _ _ _ _ ⟨i+1,rfl,by omega,rfl,rfl,hl2,hgr,fun r hr hs=>?_,hsh⟩ (by simp; omega)
   by_cases hri:r=i
   ·subst hri
    rw [hs] at hb
    simpa using hb
   ·exact hall r (by omega) hs
  have hvi:vis l2 i=false:=by
   cases hh:vis l2 i with
   | false=>rfl
   | true=>exact absurd (by rw [hh]; rfl) hb
  have hsi:suitB c0 c2 i c=true:=by
   cases hh:suitB c0 c2 i c with
   | true=>rfl
   | false=>exact absurd (by rw [hh]; simp) hb
  have hVi:vis V i=false:=by
   cases hh:vis V i with
   | false=>rfl
   | true=>rw [hgr i hh] at hvi; cases hvi
  have hMi:M[i]?=some (mbr M i):=mbr_get (by rw [h.lM]; exact hiR)
  have hcap:=h.cap i _ hy
  have hsb:=seats_b hyo
  refine Suc.at (vis_get (by omega:i<l2.length)) ?_
  refine Suc.at hMi ?_
  refine Suc.at hy ?_
  rw [seats_s hyo,Option.bind_some]
  refine Suc.ite (fun hfull=>?_) fun hfull=>?_
  ·have hfull:((mbr M i).length:Int)<c0[i].Rows * c0[i].Cols:=by simpa using hfull
   refine Suc.at hMi ?_
   refine Suc.app (by simp only [List.length_singleton]; omega) ?_
   refine Suc.at (rmo_get (by rw [h.lp]; exact hc)) ?_
   exact Suc.pure ⟨fun _=>won_here h hc hold hiR hsi hVi hy hfull,fun h=>by cases h⟩
  have hfull:((mbr M i).length:Int)=c0[i].Rows * c0[i].Cols:=by
   have:¬ ((mbr M i).length:Int)<c0[i].Rows * c0[i].Cols:=by simpa using hfull
   omega
  refine Suc.at hMi ?_
  have hset:=vis_set (V:=l2) (i:=i) (by omega)
  refine loop4 (L:=q69q rec (q15q F) (c:Int) c0 c2 (i:Int) (mbr M i)) (B:=q43q rec (q15q F) (c:Int) c0 c2 (i:Int) (mbr M i)) (fun _=>rfl)
   (fun n23 l24 l25 l26=>∃ k:Nat,n23=k∧k≤(mbr M i).length∧l25=M∧l26=p∧l24.length=c0.length∧(∀ r,vis (l2.set i true) r=true→vis l24 r=true) ∧
    (∀ r,r ≠ i→vis l24 r=true→vis V r=false→(∃ y,c0[r]?=some y∧((mbr M r).length:Int)=y.Rows * y.Cols)∧∀ x ∈ mbr M r,∀ r',suitB c0 c2 r' x.toNat=true→vis l24 r'=true) ∧
    (∀ j,j<k→∀ x,(mbr M i)[j]?=some x→∀ r',suitB c0 c2 r' x.toNat=true→vis l24 r'=true))
   (fun n23 _ _ _=>(mbr M i).length - n23.toNat) (Found c0 c2 M p c V) ?_ F 0 (l2.set i true) M p ⟨0,rfl,by omega,rfl,rfl,by simpa using hl2,fun _ h=>h,fun r hr h1 h2=>?_,fun j hj=>by omega⟩ (by omega)
  rotate_left
  ·rw [hset,if_neg hr] at h1
   obtain ⟨q1,q2⟩:=hsh r h1 h2
   refine ⟨q1,fun x hx r' hr'=>?_⟩
   rw [hset]
   split
   ·rfl
   ·exact q2 x hx r' hr'
  rintro rec2 n23 l24 l25 l26 ⟨k,rfl,hk,e5,e6,hl24,hg2,hs2,hk2⟩ ih2
  subst l25; subst l26
  have hg3:∀ r,vis V r=true→vis l24 r=true:=fun r hr=>hg2 r (by rw [hset]; split <;> first | rfl | exact hgr r hr)
  have h24i:vis l24 i=true:=hg2 i (by rw [hset,if_pos rfl])
  unfold q43q
  refine Suc.ite (fun hkl=>?_) fun hkl=>?_
  rotate_left
  ·have hke:k=(mbr M i).length:=by
    have:¬ ((k:Int)<((mbr M i).length:Int)):=by simpa using hkl
    omega
   rw [hnx]
   refine ih _ _ _ _ ⟨i+1,rfl,by omega,rfl,rfl,hl24,hg3,fun r hr hs=>?_,fun r h1 h2=>?_⟩ (by simp; omega)
   ·by_cases hri:r=i
    ·subst hri; exact h24i
    ·refine hg2 r ?_
     rw [hset,if_neg hri]
     exact hall r (by omega) hs
   ·by_cases hri:r=i
    ·subst hri
     refine ⟨⟨_,hy,hfull⟩,fun x hx r' hr'=>?_⟩
     obtain ⟨j,hj⟩:=List.mem_iff_getElem?.1 hx
     exact hk2 j (by rw [hke]; exact (List.getElem?_eq_some_iff.1 hj).1) x hj r' hr'
    ·exact hs2 r hri h1 h2
  have hkl:k<(mbr M i).length:=by
   have:((k:Int)<((mbr M i).length:Int)):=by simpa using hkl
   omega
  have hcl:=count_lt (V:=V) (W:=l24) (i:=i) (by rw [hl24,hVl]) hg3 hVi h24i
 ·omega
 obtain ⟨x,hx⟩:∃ x,(mbr M i)[k]?=some x:=⟨_,List.getElem?_eq_getElem hkl⟩
 have hxm:=h.mem i x (List.mem_of_getElem? hx)
 obtain ⟨y,rfl⟩:=Int.eq_ofNat_of_zero_le hxm.1
 have hyr:rmo p y=(i:Int):=by have:=hxm.2.2.2; simpa using this
 refine Suc.at hMi ?_
 refine Suc.at hx ?_
 refine (ihu F l24 y hl24 (by omega) (by omega) (by simpa using hxm.2.1) (fun _=>by rw [hyr]; simpa using h24i)).bind fun r hr=>?_
 refine Suc.ite (fun hr1=>?_) fun hr1=>?_
 ·have w:=hr.1 hr1
  have hM1:r.2.2.1[i]?=some (mbr r.2.2.1 i):=mbr_get (by rw [w.lM]; exact hiR)
  refine Suc.at hM1 ?_
  refine Suc.at (x:=(y:Int)) (by rw [w.same i h24i]; exact hx) ?_
  refine Suc.at (rmo_get (by rw [w.lp]; exact hc)) ?_
  exact Suc.pure ⟨fun _=>won_there h hc hold hiR hsi hVi hg3 h24i hx w,fun h=>by cases h⟩
 ·obtain ⟨w,e1,e2⟩:=hr.2 (by simpa using hr1)
  rw [nxtI (by omega),e1,e2]
  refine ih2 _ _ _ _ ⟨k+1,rfl,by omega,rfl,rfl,by rw [w.len,hl24],fun r' hr'=>w.grow _ (hg2 _ hr'),fun r' hri h1 h2=>?_,fun j hj x' hx' r' hr'=>?_⟩ (by simp only [Int.toNat_natCast]; omega)
  ·by_cases h3:vis l24 r'=true
   ·obtain ⟨q1,q2⟩:=hs2 r' hri h3 h2
    exact ⟨q1,fun x' hx' r'' hr''=>w.grow _ (q2 x' hx' r'' hr'')⟩
   ·exact w.shut r' h1 (by simpa using h3)
  ·by_cases hjk:j=k
   ·subst hjk
    rw [hx] at hx'
    cases hx'
    exact w.all r' (by simpa using hr')
   ·exact w.grow _ (hk2 j (by omega) x' hx' r' hr')
end Go.Sh
set_option linter.unusedVariables false
set_option linter.unusedSimpArgs false
namespace Go.Sh
open Go.L

structure RN (c0:List GRoom) (c2:List GNeed):Prop where
 hR:c0.length≤8
 hN:c2.length≤60
 hg:∀ y ∈ c0,roomOk y
 ho:∀ y ∈ c0,0≤y.Offers∧y.Offers≤63
 h1:∀ y ∈ c0,andI .i64 y.Offers 1 ≠ 0→y.Rows * y.Cols=1
 hc:∀ z ∈ c2,0≤z.Candidate∧z.Candidate≤9999∧0≤z.Needs∧z.Needs≤63
 asc:∀ i x y,c2[i]?=some x→c2[i+1]?=some y→x.Candidate<y.Candidate
variable {c0:List GRoom} {c2:List GNeed}
theorem chk4 (h:RN c0 c2):∀ n a,(∃ i:Nat,a=(i:Int)∧1≤i)→c2.length - a.toNat<n→Suc (q56q c2 n a) (·=0):=by
 refine loop1 (L:=q56q c2) (B:=q67q c2) (fun _=>rfl) _ (fun a=>c2.length - a.toNat) _ ?_
 rintro rec a ⟨i,rfl,hi⟩ ih
 have:=h.hN
 unfold q67q
 refine Suc.ite (fun hlt=>?_) fun _=>Suc.pure rfl
 have hlt:i<c2.length:=by simpa using hlt
 rw [i64_of (by omega) (by omega),show ((i:Int) - 1)=((i - 1:Nat):Int) by omega]
 have h1:c2[i - 1]?=some c2[i - 1]:=List.getElem?_eq_getElem (by omega)
 have h2:c2[i]?=some c2[i]:=by simp
 refine Suc.at h1 (Suc.at h2 ?_)
 have:=h.asc (i - 1) _ _ h1 (by rw [show i - 1+1=i by omega]; exact h2)
 refine Suc.ite (fun hh=>?_) fun _=>?_
 ·have:c2[i - 1].Candidate ≥ c2[i].Candidate:=by simpa using hh
  omega
 ·rw [nxtI (by omega)]
  exact ih _ ⟨i+1,rfl,by omega⟩ (by simp; omega)
theorem chk3 (h:RN c0 c2) {F:Nat} (hF:100<F):∀ n a,(∃ i:Nat,a=(i:Int))→c0.length - a.toNat<n→Suc (q55q F c0 c2 n a) (·=0):=by
 refine loop1 (L:=q55q F c0 c2) (B:=q66q F c0 c2) (fun _=>rfl) _ (fun a=>c0.length - a.toNat) _ ?_
 rintro rec a ⟨i,rfl⟩ ih
 have:=h.hR
 have:=h.hN
 unfold q66q
 refine Suc.ite (fun hlt=>?_) fun _=>chk4 h F 1 ⟨1,rfl,by omega⟩ (by omega)
 have hlt:i<c0.length:=by simpa using hlt
 have h2:c0[i]?=some c0[i]:=by simp
 refine Suc.at h2 ?_
 have hw:(if ((andI .i64 c0[i].Offers 1) != 0)=true then (q38q c0[i]).bind fun r32=>some (r32 != 1) else some false)=some false:=by
  split
  ·rename_i hh
   rw [seats_s (h.hg _ (List.getElem_mem _)),Option.bind_some,h.h1 _ (List.getElem_mem _) (by simpa using hh)]
   rfl
  ·rfl
 rw [hw,Option.bind_some,if_neg (by simp),nxtI (by omega)]
 exact ih _ ⟨i+1,rfl⟩ (by simp; omega)
theorem chk2 (h:RN c0 c2) {F:Nat} (hF:100<F):∀ n a,(∃ i:Nat,a=(i:Int))→c2.length - a.toNat<n→Suc (q54q F c0 c2 n a) (·=0):=by
 refine loop1 (L:=q54q F c0 c2) (B:=q65q F c0 c2) (fun _=>rfl) _ (fun a=>c2.length - a.toNat) _ ?_
 rintro rec a ⟨i,rfl⟩ ih
 have:=h.hR
 have:=h.hN
 unfold q65q
 refine Suc.ite (fun hlt=>?_) fun _=>chk3 h hF F 0 ⟨0,rfl⟩ (by omega)
 have hlt:i<c2.length:=by simpa using hlt
 have h2:c2[i]?=some c2[i]:=by simp
 refine Suc.at h2 ?_
 obtain ⟨q1,q2,q3,q4⟩:=h.hc c2[i] (List.getElem_mem _)
 have hw:(if decide (c2[i].Candidate<0)=true then some true else if decide (c2[i].Candidate > 9999)=true then some true else (q23q c2[i].Needs).bind fun r24=>some (!r24))=some false:=by
  rw [if_neg (by simpa using q1),if_neg (by simpa using q2)]
  simp [q23q,q3,q4]
 rw [hw,Option.bind_some,if_neg (by simp),nxtI (by omega)]
 exact ih _ ⟨i+1,rfl⟩ (by simp; omega)
theorem chk1 (h:RN c0 c2) {F:Nat} (hF:100<F):∀ n a,(∃ i:Nat,a=(i:Int))→c0.length - a.toNat<n→Suc (q53q F c0 c2 n a) (·=0):=by
 refine loop1 (L:=q53q F c0 c2) (B:=q64q F c0 c2) (fun _=>rfl) _ (fun a=>c0.length - a.toNat) _ ?_
 rintro rec a ⟨i,rfl⟩ ih
 have:=h.hR
 have:=h.hN
 unfold q64q
 refine Suc.ite (fun hlt=>?_) fun _=>chk2 h hF F 0 ⟨0,rfl⟩ (by omega)
 have hlt:i<c0.length:=by simpa using hlt
 have h2:c0[i]?=some c0[i]:=by simp
 refine Suc.at h2 ?_
 obtain ⟨q1,q2,q3,q4⟩:=h.hg c0[i] (List.getElem_mem _)
 obtain ⟨o1,o2⟩:=h.ho c0[i] (List.getElem_mem _)
 have hw:((q60q c0[i].Rows).bind fun r11=>if (!r11)=true then some true else (q60q c0[i].Cols).bind fun r13=>if (!r13)=true then some true else (q23q c0[i].Offers).bind fun r15=>some (!r15))=some false:=by
  simp [q60q,q23q,q1,q2,q3,q4,o1,o2]
 rw [hw,Option.bind_some,if_neg (by simp),nxtI (by omega)]
 exact ih _ ⟨i+1,rfl⟩ (by simp; omega)
theorem check_s (h:RN c0 c2) {F:Nat} (hF:100<F):q88q F c0 c2 2=some 0:=by
 have:=h.hR
 have:=h.hN
 obtain ⟨r,h1,rfl⟩:=chk1 h hF F 0 ⟨0,rfl⟩ (by omega)
 unfold q88q
 rw [if_neg (by simp; omega)]
 simp only [q27q,Option.bind_some]
 rw [if_neg (by simp)]
 exact h1

def seatN (c0:List GRoom) (r:Nat):Int:=match c0[r]? with | some y=>y.Rows * y.Cols | .none=>0
def sumV (c0:List GRoom) (V:List Bool):Nat→Int
 | 0=>0
 | r+1=>sumV c0 V r+if vis V r=true then seatN c0 r else 0
theorem sumV_b (h:∀ y ∈ c0,roomOk y) (V:List Bool):∀ r,0≤sumV c0 V r∧sumV c0 V r≤64 * r
 | 0=>by simp [sumV]
 | r+1=>by
  have ih:=sumV_b h V r
  have:0≤seatN c0 r∧seatN c0 r≤64:=by
   unfold seatN
   split
   ·rename_i y hy
    have:=seats_b (h y (List.mem_of_getElem? hy)); omega
   ·omega
  unfold sumV
  split <;> omega
theorem nodup_app {a b:List Int} (ha:a.Nodup) (hb:b.Nodup) (h:∀ x ∈ a,x ∉ b):(a++b).Nodup:=by
 rw [List.nodup_append]
 exact ⟨ha,hb,fun x hx y hy he=>h x hx (he ▸ hy)⟩
def TooFew (c0:List GRoom) (c2:List GNeed) (V:List Bool) (S:List Int):Prop:=S.Nodup∧(∀ x ∈ S,0≤x∧x.toNat<c2.length)∧(S.length:Int)=1+sumV c0 V c0.length∧∀ x ∈ S,∀ r,suitB c0 c2 r x.toNat=true→vis V r=true
theorem place2_s {M:List (List Int)} {p:List Int} (h:RN c0 c2) (w:WF c0 c2 M p) {c:Nat} (hc:c<c2.length) (hcp:rmo p c<0) {V':List Bool} (hl:V'.length=c0.length) (l:Lost c0 c2 M c (List.replicate c0.length false) V') {F:Nat} (hF:100<F) :
  Suc (q57q c0 (false,V',M,p) F 0 [(c:Int)]) fun r=>r.1=[]∧r.2.2=10∧r.2.1.Pairwise (·<·)∧TooFew c0 c2 V' r.2.1:=by
 have hV0:∀ r,vis (List.replicate c0.length false) r=false:=fun r=>by
  simp only [vis,List.getD,List.getElem?_replicate]; split <;> rfl
 have hR:=h.hR
 refine loop2 (L:=q57q c0 (false,V',M,p)) (B:=q71q c0 (false,V',M,p)) (fun _=>rfl)
  (fun n14 l15=>∃ r:Nat,n14=r∧r≤c0.length∧l15.Nodup∧(∀ x ∈ l15,x=(c:Int) ∨ ∃ r0,r0<r∧vis V' r0=true∧x ∈ mbr M r0)∧(l15.length:Int)=1+sumV c0 V' r)
  (fun n14 _=>c0.length - n14.toNat) _ ?_ F 0 [(c:Int)] ⟨0,rfl,by omega,by simp,by simp,by simp [sumV]⟩ (by omega)
 rintro rec n14 l15 ⟨r,rfl,hr,hn,hx,hlen⟩ ih
 have hb:=sumV_b h.hg V' r
 unfold q71q
 refine Suc.ite (fun hlt=>?_) fun hlt=>?_
 ·have hlt:r<c0.length:=by simpa using hlt
  have hy:c0[r]?=some c0[r]:=by simp
  have hsN:seatN c0 r=c0[r].Rows * c0[r].Cols:=by unfold seatN; rw [hy]
  refine Suc.at (vis_get (by omega:r<V'.length)) ?_
  rw [nxtI (by omega)]
  refine Suc.ite (fun hv=>?_) fun hv=>?_
  ·obtain ⟨⟨y,hy',hful⟩,hcl⟩:=l.shut r hv (hV0 r)
   rw [hy] at hy'
   cases hy'
   have hsb:=seats_b (h.hg _ (List.getElem_mem hlt))
   refine Suc.at (mbr_get (by rw [w.lM]; exact hlt)) ?_
   refine Suc.app (show l15.length+(mbr M r).length≤_ by omega) ?_
   show Suc (rec _ (l15++mbr M r)) _
   refine ih _ _ ⟨r+1,rfl,by omega,nodup_app hn (w.nod r) fun x hxl hxr=>?_,fun x hxl=>?_,?_⟩ (by simp; omega)
   ·have hxr':=w.mem r x hxr
    rcases hx x hxl with rfl | ⟨r0,h1,h2,h3⟩
    ·have:=hxr'.2.2.2
     rw [Int.toNat_natCast] at this; omega
    ·have:=(w.mem r0 x h3).2.2.2
     omega
   ·rcases List.mem_append.1 hxl with hxl | hxl
    ·rcases hx x hxl with h1 | ⟨r0,h1,h2,h3⟩
     ·exact .inl h1
     ·exact .inr ⟨r0,by omega,h2,h3⟩
    ·exact .inr ⟨r,by omega,hv,hxl⟩
   ·rw [List.length_append]
    unfold sumV
    rw [if_pos hv,hsN]
    omega
  ·refine ih _ _ ⟨r+1,rfl,by omega,hn,fun x hxl=>?_,?_⟩ (by simp; omega)
   ·rcases hx x hxl with h1 | ⟨r0,h1,h2,h3⟩
    ·exact .inl h1
    ·exact .inr ⟨r0,by omega,h2,h3⟩
   ·unfold sumV
    rw [if_neg hv]; omega
 ·have hre:r=c0.length:=by
   have:¬ ((r:Int)<(c0.length:Int)):=by simpa using hlt
   omega
  subst hre
  have hs:sortS l15=some (l15.mergeSort fun x y=>decide (x≤y)):=by
   unfold sortS; rw [if_pos (by omega)]
  rw [hs,Option.bind_some]
  have hp:=List.mergeSort_perm l15 (fun x y=>decide (x≤y))
  have hso:=List.pairwise_mergeSort (le:=fun (x y:Int)=>decide (x≤y)) (by intro a b c; simp; omega) (by intro a b; simp; omega) l15
  have hnd:=hp.nodup_iff.2 hn
  refine Suc.pure ⟨rfl,rfl,?_,hnd,fun x hxs=>?_,?_,fun x hxs r hs=>?_⟩
  ·have:=List.Pairwise.and hso hnd
   refine this.imp fun h=>?_
   have h1:=h.1
   have h2:=h.2
   simp only [decide_eq_true_eq] at h1
   omega
  ·rcases hx x (hp.mem_iff.1 hxs) with rfl | ⟨r0,h1,h2,h3⟩
   ·exact ⟨by omega,by simpa using hc⟩
   ·have:=w.mem r0 x h3
    exact ⟨this.1,this.2.1⟩
  ·show ((l15.mergeSort fun x y=>decide (x≤y)).length:Int)=_
   rw [hp.length_eq]; exact hlen
  ·rcases hx x (hp.mem_iff.1 hxs) with rfl | ⟨r0,h1,h2,h3⟩
   ·exact l.all r (by simpa using hs)
   ·exact (l.shut r0 h2 (hV0 r0)).2 x h3 r hs
end Go.Sh
set_option linter.unusedVariables false
set_option linter.unusedSimpArgs false
namespace Go.Sh
open Go.L
variable {c0:List GRoom} {c2:List GNeed}
theorem isSet_s {S:List Int} {N:Nat} (hs:S.Pairwise (·<·)) (hr:∀ x ∈ S,0≤x∧x.toNat<N) (hl:S.length≤1000) {F:Nat} (hF:1100<F):q150q F S (N:Int)=some true:=by
 obtain ⟨r,h1,rfl⟩:Suc (q59q S (N:Int) F 0) (·=true):=by
  refine loop1 (L:=q59q S (N:Int)) (B:=q73q S (N:Int)) (fun _=>rfl) (fun a=>∃ i:Nat,a=(i:Int)) (fun a=>S.length - a.toNat) _ ?_ F 0 ⟨0,rfl⟩ (by omega)
  rintro rec a ⟨i,rfl⟩ ih
  unfold q73q
  refine Suc.ite (fun hlt=>?_) fun _=>Suc.pure rfl
  have hlt:i<S.length:=by simpa using hlt
  have hx:S[i]?=some S[i]:=by simp
  refine Suc.at hx ?_
  obtain ⟨q1,q2⟩:=hr S[i] (List.getElem_mem _)
  have hw:(if decide (S[i]<0)=true then some true else if decide (S[i] ≥ (N:Int))=true then some true else if decide ((i:Int) > 0)=true then (idx S (i64 ((i:Int) - 1))).bind fun x9=>some (decide (x9 ≥ S[i])) else some false)=some false:=by
   rw [if_neg (by simpa using q1),if_neg (by simp; omega)]
   split
   ·rename_i hi
    have hi:0<i:=by simpa using hi
    rw [i64_of (by omega) (by omega),show ((i:Int) - 1)=((i - 1:Nat):Int) by omega,idxN (List.getElem?_eq_getElem (by omega:i - 1<S.length)),Option.bind_some]
    have:=List.pairwise_iff_getElem.1 hs (i - 1) i (by omega) hlt (by omega)
    simp; omega
   ·rfl
  rw [hw,Option.bind_some,if_neg (by simp),nxtI (by omega)]
  exact ih _ ⟨i+1,rfl⟩ (by simp; omega)
 exact h1
theorem contains_s {S:List Int} {r:Nat} {y:GRoom} (hy:c0[r]?=some y) (hr:∀ x ∈ S,0≤x∧x.toNat<c2.length) (hl:S.length≤1000) {F:Nat} (hF:1100<F) :
  Suc (q24q F S (fun a0=>q35q a0 y c2)) fun b=>b=true→∃ x ∈ S,suitB c0 c2 r x.toNat=true:=by
 have key:Suc (q14q S (fun a0=>q35q a0 y c2) F 0) fun b=>b ≥ 0→∃ x ∈ S,suitB c0 c2 r x.toNat=true:=by
  refine loop1 (L:=q14q S _) (B:=q17q S _) (fun _=>rfl) (fun a=>∃ i:Nat,a=(i:Int)) (fun a=>S.length - a.toNat) _ ?_ F 0 ⟨0,rfl⟩ (by omega)
  rintro rec a ⟨i,rfl⟩ ih
  unfold q17q
  refine Suc.ite (fun hlt=>?_) fun _=>Suc.pure fun h=>absurd h (by decide)
  have hlt:i<S.length:=by simpa using hlt
  have hx:S[i]?=some S[i]:=by simp
  refine Suc.at hx ?_
  obtain ⟨q1,q2⟩:=hr S[i] (List.getElem_mem _)
  have hz:c2[S[i].toNat]?=some c2[S[i].toNat]:=by simp
  have hw:q35q S[i] y c2=some (suitB c0 c2 r S[i].toNat):=by
   unfold q35q
   have e:idx c2 S[i]=some c2[S[i].toNat]:=by
    have:=idxN hz
    rwa [Int.toNat_of_nonneg q1] at this
   rw [e,Option.bind_some,suit_at hy hz]; rfl
  show Suc ((q35q S[i] y c2).bind _) _
  rw [hw,Option.bind_some]
  refine Suc.ite (fun hh=>Suc.pure fun _=>⟨_,List.getElem_mem hlt,hh⟩) fun _=>?_
  rw [nxtI (by omega)]
  exact ih _ ⟨i+1,rfl⟩ (by simp; omega)
 unfold q24q q44q
 refine key.bind fun b hb=>Suc.pure fun h=>hb (by simpa using h)
theorem short_s (h:RN c0 c2) {V:List Bool} {S:List Int} (hs:S.Pairwise (·<·)) (t:TooFew c0 c2 V S) {F:Nat} (hF:1100<F):q135q F c0 c2 S=some true:=by
 obtain ⟨t1,t2,t3,t4⟩:=t
 have hR:=h.hR
 have hbR:=sumV_b h.hg V c0.length
 have hl:S.length≤1000:=by omega
 unfold q135q
 rw [check_s h (by omega),Option.bind_some,if_neg (by simp),isSet_s hs t2 hl hF]
 simp only [Option.bind_some,Bool.not_true,Bool.false_eq_true,if_false]
 obtain ⟨r,h1,rfl⟩:Suc (q58q F c0 c2 S F 0 0) (·=true):=by
  refine loop2 (L:=q58q F c0 c2 S) (B:=q72q F c0 c2 S) (fun _=>rfl) (fun n7 n8=>∃ i:Nat,n8=(i:Int)∧i≤c0.length∧0≤n7∧n7≤sumV c0 V i) (fun _ a=>c0.length - a.toNat) _ ?_ F 0 0 ⟨0,rfl,by omega,by omega,by simp [sumV]⟩ (by omega)
  rintro rec n7 n8 ⟨i,rfl,hi,h0,hle⟩ ih
  have hbi:=sumV_b h.hg V i
  unfold q72q
  refine Suc.ite (fun hlt=>?_) fun hlt=>?_
  ·have hlt:i<c0.length:=by simpa using hlt
   have hy:c0[i]?=some c0[i]:=by simp
   have hyo:=h.hg _ (List.getElem_mem hlt)
   have hsb:=seats_b hyo
   have hsN:seatN c0 i=c0[i].Rows * c0[i].Cols:=by unfold seatN; rw [hy]
   refine Suc.at hy ?_
   rw [nxtI (by omega)]
   refine (contains_s hy t2 hl hF).bind fun b hb=>?_
   refine Suc.ite (fun hh=>?_) fun hh=>?_
   ·rw [seats_s hyo,Option.bind_some,i64_of (by omega) (by omega)]
    obtain ⟨x,hx,hsx⟩:=hb hh
    refine ih _ _ ⟨i+1,rfl,by omega,by omega,?_⟩ (by simp; omega)
    unfold sumV
    rw [if_pos (t4 x hx i hsx),hsN]; omega
   ·refine ih _ _ ⟨i+1,rfl,by omega,by omega,?_⟩ (by simp; omega)
    unfold sumV
    split <;> omega
  ·have hie:i=c0.length:=by
    have:¬ ((i:Int)<(c0.length:Int)):=by simpa using hlt
    omega
   subst hie
   exact Suc.pure (by simp; omega)
 exact h1

def cntR (p:List Int) (r:Nat):Nat→Nat
 | 0=>0
 | i+1=>cntR p r i+if rmo p i=(r:Int) then 1 else 0
theorem cntR_mono {p:List Int} {r:Nat} {i j:Nat} (h:i≤j):cntR p r i≤cntR p r j:=by
 induction h with
 | refl=>exact Nat.le_refl _
 | step _ ih=>exact Nat.le_trans ih (Nat.le_add_right _ _)
theorem cntR_list (p:List Int) (r:Nat):∀ i,∃ l:List Int,l.Nodup∧l.length=cntR p r i∧∀ x ∈ l,∃ j:Nat,x=(j:Int)∧j<i∧rmo p j=(r:Int)
 | 0=>⟨[],by simp,rfl,by simp⟩
 | i+1=>by
  obtain ⟨l,h1,h2,h3⟩:=cntR_list p r i
  unfold cntR
  by_cases h:rmo p i=(r:Int)
  ·rw [if_pos h]
   refine ⟨(i:Int) :: l,List.nodup_cons.2 ⟨fun hi=>?_,h1⟩,by simp [h2],fun x hx=>?_⟩
   ·obtain ⟨j,h4,h5,_⟩:=h3 _ hi; omega
   ·rcases List.mem_cons.1 hx with rfl | hx
    ·exact ⟨i,rfl,by omega,h⟩
    ·obtain ⟨j,h4,h5,h6⟩:=h3 _ hx; exact ⟨j,h4,by omega,h6⟩
  ·rw [if_neg h]
   refine ⟨l,h1,by omega,fun x hx=>?_⟩
   obtain ⟨j,h4,h5,h6⟩:=h3 _ hx; exact ⟨j,h4,by omega,h6⟩
theorem cntR_le {M:List (List Int)} {p:List Int} (w:WF c0 c2 M p) (r i:Nat):cntR p r i≤(mbr M r).length:=by
 obtain ⟨l,h1,h2,h3⟩:=cntR_list p r i
 rw [← h2]
 refine h1.length_le_of_subset fun x hx=>?_
 obtain ⟨j,rfl,_,h4⟩:=h3 x hx
 have:=(w.plc j (by omega)).2
 rwa [h4,Int.toNat_natCast] at this
theorem cntR_lt {M:List (List Int)} {p:List Int} (w:WF c0 c2 M p) {r i:Nat} {y:GRoom} (hy:c0[r]?=some y) (h:rmo p i=(r:Int)):(cntR p r i:Int)<y.Rows * y.Cols:=by
 have h1:=cntR_le w r (i+1)
 have h2:=w.cap r y hy
 unfold cntR at h1
 rw [if_pos h] at h1
 omega
def placeOf (c0:List GRoom) (c2:List GNeed) (p:List Int) (i:Nat):Gq8 :=
 let q:Int:=cntR p (rmo p i).toNat i
 let c:Int:=match c0[(rmo p i).toNat]? with | some y=>y.Cols | .none=>1
 Gq8.mk (match c2[i]? with | some z=>z.Candidate | .none=>0) (GSeat.mk (rmo p i) (q / c) (q % c)) ((q / c+q % c) % 2)
end Go.Sh
set_option linter.unusedVariables false
set_option linter.unusedSimpArgs false
namespace Go.Sh
open Go.L
variable {c0:List GRoom} {c2:List GNeed}
theorem quo_s {a b:Int} (ha:0≤a) (ha2:a≤1000000) (hb:1≤b):quo .i64 a b=some (a / b):=by
 unfold quo
 have h1:=Int.ediv_nonneg ha (by omega:0≤b)
 have h2:=Int.ediv_le_self b ha
 rw [if_neg (by omega),Int.tdiv_eq_ediv_of_nonneg ha]
 exact congrArg some (i64_of (by omega) (by omega))
theorem rmd_s {a b:Int} (ha:0≤a) (hb:1≤b):rmd a b=some (a % b):=by
 unfold rmd
 rw [if_neg (by omega),Int.tmod_eq_emod_of_nonneg ha]
theorem variant_s {a b:Int} (ha:0≤a) (ha2:a<8) (hb:0≤b) (hb2:b<8):q81q a b 2=some ((a+b) % 2):=by
 unfold q81q
 simp only [q27q,Option.bind_some]
 have h1:¬ a<0:=by omega
 have h2:¬ a ≥ 8:=by omega
 have h3:¬ b<0:=by omega
 have h4:¬ b ≥ 8:=by omega
 simp only [h1,h2,h3,h4]
 simp
 rw [i64_of (by omega) (by omega),rmd_s (by omega) (by omega)]
theorem cntR_yes {p:List Int} {r i:Nat} (h:rmo p i=(r:Int)):cntR p r (i+1)=cntR p r i+1:=by
 conv=>lhs; unfold cntR
 rw [if_pos h]
theorem cntR_no {p:List Int} {r i:Nat} (h:¬ rmo p i=(r:Int)):cntR p r (i+1)=cntR p r i:=by
 conv=>lhs; unfold cntR
 rw [if_neg h]; rfl
theorem ediv_lt' {q a b:Int} (hb:1≤b) (h:q<a * b):q / b<a:=Int.ediv_lt_of_lt_mul (by omega) h
theorem assign_s (h:RN c0 c2) {M:List (List Int)} {p:List Int} (w:WF c0 c2 M p) (hall:∀ x,x<c2.length→0≤rmo p x) {F:Nat} (hF:1100<F) :
  Suc (q132q F c0 c2 2 p) fun r=>r.2=0∧r.1.length=c2.length∧∀ j,j<c2.length→r.1[j]?=some (placeOf c0 c2 p j):=by
 have hR:=h.hR
 have hN:=h.hN
 have hpl:=w.lp
 have hrm:∀ i,i<c2.length→∃ r:Nat,rmo p i=(r:Int)∧r<c0.length∧suitB c0 c2 r i=true:=fun i hi=>by
  obtain ⟨h1,h2⟩:=w.plc i (hall i hi)
  refine ⟨(rmo p i).toNat,by have:=hall i hi; omega,h1,?_⟩
  have:=(w.mem _ _ h2).2.2.1
  simpa using this
 unfold q132q
 rw [check_s h (by omega),Option.bind_some,if_neg (by simp),if_neg (by rw [hpl]; simp)]
 refine loop1 (L:=q94q F c0 c2 2 p) (B:=q49q F c0 c2 2 p) (fun _=>rfl) (fun a=>∃ i:Nat,a=(i:Int)) (fun a=>c2.length - a.toNat) _ ?_ F 0 ⟨0,rfl⟩ (by omega)
 rintro rec a ⟨i,rfl⟩ ih
 unfold q49q
 refine Suc.ite (fun hlt=>?_) fun _=>?_
 ·have hlt:i<c2.length:=by rw [← hpl]; simpa using hlt
  obtain ⟨r,h1,h2,h3⟩:=hrm i hlt
  refine Suc.at (rmo_get (by omega:i<p.length)) ?_
  rw [h1,if_neg (by simp; omega),nxtI (by omega)]
  exact ih _ ⟨i+1,rfl⟩ (by simp; omega)
 refine loop1 (L:=q95q F c0 c2 2 p) (B:=q50q F c0 c2 2 p) (fun _=>rfl) (fun a=>∃ i:Nat,a=(i:Int)) (fun a=>c2.length - a.toNat) _ ?_ F 0 ⟨0,rfl⟩ (by omega)
 clear ih
 rintro rec a ⟨i,rfl⟩ ih
 unfold q50q
 refine Suc.ite (fun hlt=>?_) fun _=>?_
 ·have hlt:i<c2.length:=by rw [← hpl]; simpa using hlt
  obtain ⟨r,h1,h2,h3⟩:=hrm i hlt
  refine Suc.at (rmo_get (by omega:i<p.length)) ?_
  rw [h1]
  refine Suc.at (List.getElem?_eq_getElem h2) ?_
  refine Suc.at (List.getElem?_eq_getElem hlt) ?_
  rw [suit_at (List.getElem?_eq_getElem h2) (List.getElem?_eq_getElem hlt),Option.bind_some,h3,if_neg (by simp),nxtI (by omega)]
  exact ih _ ⟨i+1,rfl⟩ (by simp; omega)
 rw [mkl_of (by omega),Option.bind_some,mkl_of (by omega),Option.bind_some]
 refine loop3 (L:=q96q c0 c2 2 p) (B:=q51q c0 c2 2 p) (fun _=>rfl)
  (fun a l20 l21=>∃ i:Nat,a=(i:Int)∧i≤c2.length∧(∀ r,r<c0.length→l20[r]?=some (cntR p r i:Int))∧l20.length=c0.length∧l21.length=c2.length∧∀ j,j<i→l21[j]?=some (placeOf c0 c2 p j))
  (fun a _ _=>c2.length - a.toNat) _ ?_ F 0 _ _ ⟨0,rfl,by omega,fun r hr=>by simp [List.getElem?_replicate,hr,cntR],by simp,by simp,fun j hj=>by omega⟩ (by omega)
 clear ih
 rintro rec a l20 l21 ⟨i,rfl,hi,hc,hl1,hl2,hp⟩ ih
 unfold q51q
 refine Suc.ite (fun hlt=>?_) fun hlt=>?_
 ·have hlt:i<c2.length:=by rw [← hpl]; simpa using hlt
  obtain ⟨r,h1,h2,h3⟩:=hrm i hlt
  have hy:c0[r]?=some c0[r]:=by simp
  have hz:c2[i]?=some c2[i]:=by simp
  have hyo:=h.hg _ (List.getElem_mem h2)
  have hsb:=seats_b hyo
  have hlt2:=cntR_lt w hy h1
  have hcr:=hc r h2
  obtain ⟨q1,q2,q3,q4⟩:=hyo
  obtain ⟨q,hq⟩:∃ q,q=cntR p r i:=⟨_,rfl⟩
  have e1:quo .i64 (cntR p r i:Int) c0[r].Cols=some ((q:Int) / c0[r].Cols):=by rw [hq]; exact quo_s (by omega) (by omega) q3
  have e2:rmd (cntR p r i:Int) c0[r].Cols=some ((q:Int) % c0[r].Cols):=by rw [hq]; exact rmd_s (by omega) q3
  have b1:0≤(q:Int) / c0[r].Cols:=Int.ediv_nonneg (by omega) (by omega)
  have b2:(q:Int) / c0[r].Cols<c0[r].Rows:=ediv_lt' q3 (by rw [hq]; exact hlt2)
  have b3:0≤(q:Int) % c0[r].Cols:=Int.emod_nonneg _ (by omega)
  have b4:(q:Int) % c0[r].Cols<c0[r].Cols:=Int.emod_lt_of_pos _ (by omega)
  have e3:q81q ((q:Int) / c0[r].Cols) ((q:Int) % c0[r].Cols) 2=some (((q:Int) / c0[r].Cols+(q:Int) % c0[r].Cols) % 2):=variant_s b1 (by omega) b3 (by omega)
  refine Suc.at (rmo_get (by omega:i<p.length)) ?_
  rw [h1]
  refine Suc.at hcr (Suc.at hy ?_)
  rw [seats_s (h.hg _ (List.getElem_mem h2)),Option.bind_some]
  rw [if_neg (by simp; omega)]
  refine Suc.at hcr (Suc.at hy ?_)
  rw [e1,Option.bind_some]
  refine Suc.at hcr (Suc.at hy ?_)
  rw [e2,Option.bind_some]
  refine Suc.at hcr (Suc.at hcr (Suc.at hz ?_))
  rw [e3,Option.bind_some]
  refine Suc.at (List.getElem?_eq_getElem (by omega:i<l21.length)) ?_
  rw [nxtI (by omega),i64_of (by omega) (by omega)]
  simp only [Int.toNat_natCast]
  refine ih _ _ _ ⟨i+1,rfl,by omega,fun r' hr'=>?_,by simp [hl1],by simp [hl2],fun j hj=>?_⟩ (by simp; omega)
  ·by_cases hrr:r'=r
   ·subst hrr
    rw [List.getElem?_set_self (by omega)]
    rw [cntR_yes h1]; rfl
   ·rw [List.getElem?_set_ne (Ne.symm hrr),hc r' hr']
    rw [cntR_no (by omega)]
  ·by_cases hji:j=i
   ·subst hji
    rw [List.getElem?_set_self (by omega)]
    unfold placeOf
    rw [h1,Int.toNat_natCast,hy,hz,← hq]
   ·rw [List.getElem?_set_ne (Ne.symm hji)]
    exact hp j (by omega)
 ·have hie:i=c2.length:=by
   have:¬ ((i:Int)<(p.length:Int)):=by simpa using hlt
   omega
  subst hie
  exact Suc.pure ⟨rfl,hl2,hp⟩

def Placed (c0:List GRoom) (c2:List GNeed) (l:List Gq8):Prop:=∃ M p,WF c0 c2 M p∧(∀ x,x<c2.length→0≤rmo p x)∧l.length=c2.length∧∀ j,j<c2.length→l[j]?=some (placeOf c0 c2 p j)
theorem place_s (h:RN c0 c2) {F:Nat} (hF:1100<F):Suc (q120q F c0 c2 2) fun r=>(r.2.2=10∧r.2.1.Pairwise (·<·)∧∃ V,TooFew c0 c2 V r.2.1) ∨ (r.2.2=0∧Placed c0 c2 r.1):=by
 have hR:=h.hR
 have hN:=h.hN
 unfold q120q
 rw [check_s h (by omega),Option.bind_some,if_neg (by simp)]
 have hrep:repF (-1) (c2.length:Int)=some (List.replicate c2.length (-1)):=by
  unfold repF; rw [if_pos (by omega)]; rfl
 rw [hrep,Option.bind_some,mkl_of (by omega),Option.bind_some]
 have hM0:∀ r,mbr (List.replicate c0.length ([]:List Int)) r=[]:=fun r=>by
  simp only [mbr,List.getD,List.getElem?_replicate]; split <;> rfl
 have hp0:∀ r,rmo (List.replicate c2.length (-1:Int)) r=-1:=fun r=>by
  simp only [rmo,List.getD,List.getElem?_replicate]; split <;> rfl
 refine loop4 (L:=q114q F c0 c2 2) (B:=q70q F c0 c2 2) (fun _=>rfl) (fun a _ l7 l8=>∃ i:Nat,a=(i:Int)∧i≤c2.length∧WF c0 c2 l7 l8∧(∀ x,x<i→0≤rmo l8 x)∧∀ x,i≤x→rmo l8 x<0)
  (fun a _ _ _=>c2.length - a.toNat) _ ?_ F 0 _ _ _ ⟨0,rfl,by omega,⟨by simp,by simp,fun r x hx=>by rw [hM0] at hx; simp at hx,fun r=>by rw [hM0]; simp,fun r y hy=>?_,fun x hx=>by rw [hp0] at hx; omega⟩,fun x hx=>by omega,fun x _=>by rw [hp0]; omega⟩ (by omega)
 rotate_left
 ·rw [hM0]
  have:=seats_b (h.hg y (List.mem_of_getElem? hy))
  simp only [List.length_nil]
  omega
 rintro rec a l6 M p ⟨i,rfl,hi,w,hpl,hun⟩ ih
 unfold q70q
 refine Suc.ite (fun hlt=>?_) fun hlt=>?_
 ·have hlt:i<c2.length:=by simpa using hlt
  rw [mkl_of (by omega),Option.bind_some]
  have hci:=hun i (by omega)
  refine (aug hR hN h.hg w c0.length F (List.replicate c0.length false) i (by simp) (by simp) (by omega) hlt (fun h0=>by omega)).bind fun r hr=>?_
  refine Suc.ite (fun h1=>?_) fun h1=>?_
  ·have won:=hr.1 h1
   rw [nxtI (by omega)]
   refine ih _ _ _ _ ⟨i+1,rfl,by omega,won.wf hci,fun x hx=>?_,fun x hx=>?_⟩ (by simp; omega)
   ·by_cases hxi:x=i
    ·subst hxi; exact won.now.1
    ·exact won.kept x (hpl x (by omega))
   ·rw [won.old x (by omega) (.inl (hun x (by omega)))]
    exact hun x (by omega)
  ·obtain ⟨lost,e1,e2⟩:=hr.2 (by simpa using h1)
   obtain ⟨b,V',M',p'⟩:=r
   have hb:b=false:=by simpa using h1
   simp only at e1 e2 lost
   subst hb; subst e1; subst e2
   refine Suc.app (by simp) ?_
   exact (place2_s h w hlt hci (by rw [lost.len]; simp) lost (by omega)).imp fun r hr=>.inl ⟨hr.2.1,hr.2.2.1,_,hr.2.2.2⟩
 ·have hie:i=c2.length:=by
   have:¬ ((i:Int)<(c2.length:Int)):=by simpa using hlt
   omega
  subst hie
  refine (assign_s h w hpl hF).bind fun r hr=>Suc.pure (.inr ⟨hr.1,M,p,w,hpl,hr.2⟩)
end Go.Sh
set_option linter.unusedVariables false
set_option linter.unusedSimpArgs false
namespace Go.Sh
open Go.L

def ltE (a b:Gq4):Bool:=(decide (a.Candidate<b.Candidate)) || ((a.Candidate == b.Candidate) && (decide (a.Paper<b.Paper)))
def eqE (a b:Gq4):Bool:=(a.Candidate == b.Candidate) && (a.Paper == b.Paper)
def cmpE (a b:Gq4):Int:=if cmpS a.Candidate b.Candidate ≠ 0 then cmpS a.Candidate b.Candidate else cmpS a.Paper b.Paper
theorem ltE_iff {a b:Gq4}:ltE a b=true ↔ a.Candidate<b.Candidate ∨ a.Candidate=b.Candidate∧a.Paper<b.Paper:=by unfold ltE; simp
theorem eqE_iff {a b:Gq4}:eqE a b=true ↔ a.Candidate=b.Candidate∧a.Paper=b.Paper:=by unfold eqE; simp
theorem cmpE_lt {a b:Gq4}:cmpE a b<0 ↔ ltE a b=true:=by
 rw [ltE_iff]; unfold cmpE; have:=@cmpS_zero a.Candidate b.Candidate; split
 ·rw [cmpS_lt]; simp_all
 ·rw [cmpS_lt]; simp_all
theorem cmpE_zero {a b:Gq4}:cmpE a b=0 ↔ eqE a b=true:=by
 rw [eqE_iff]; unfold cmpE; have:=@cmpS_zero a.Candidate b.Candidate; have:=@cmpS_zero a.Paper b.Paper; split <;> simp_all
theorem ecompare_s {F:Nat} (hF:10≤F) (x:Gq3) (y:Gq4):q87q F x y=some (cmpE x.Entry y):=by
 simp only [q87q,compare_s,Option.bind_some]
 rw [or_s (by simp) (by simp; omega)]
 simp only [Option.bind_some,orS,cmpE]
 repeat' split
 all_goals simp_all
theorem ltE_trans {a b c:Gq4} (h:ltE a b=true) (h':ltE b c=true):ltE a c=true:=by rw [ltE_iff] at *; omega
def vEntry (p0:Gq4):Bool:=((decide (p0.Candidate ≥ 0)) && ((decide (p0.Candidate≤9999)) && ((decide (p0.Centre ≥ 1)) && ((decide (p0.Centre≤99)) && ((decide (p0.Paper ≥ 0)) && (decide (p0.Paper≤31)))))))
theorem validEntry_s (x:Gq4):q52q x=some (vEntry x):=by
 simp only [q52q,q104q,vEntry,Option.bind_some]
 cases decide (x.Candidate ≥ 0) <;> cases decide (x.Candidate≤9999) <;> cases decide (x.Centre ≥ 1) <;> cases decide (x.Centre≤99) <;> cases decide (x.Paper ≥ 0) <;> simp
def vEvent (e:Gq5):Bool:=vEntry e.Entry && ((e.Kind == 1) || ((e.Kind == 2) || ((e.Kind == 3) && ((decide (e.To ≥ 1)) && ((decide (e.To≤99)) && (e.To != e.Entry.Centre))))))
theorem validEvent_s (e:Gq5):q113q e=some (vEvent e):=by
 simp only [q113q,q48q,validEntry_s,q104q,vEvent,Option.bind_some]
 by_cases h1:e.Kind=1
 ·simp [h1]
 ·by_cases h2:e.Kind=2
  ·simp [h2]
  ·by_cases h3:e.Kind=3
   ·cases vEntry e.Entry <;> cases h4:decide (e.To ≥ 1) <;> cases h5:decide (e.To≤99) <;> simp_all
   ·simp [h1,h2,h3]
theorem mid_s {a b:Nat} (h:a+b<1000000000):i64 (shrI .u64 (IntKind.u64.wrap (i64 ((a:Int)+b))) 1)=(((a+b) / 2:Nat):Int):=by
 rw [i64_of (n:=(a:Int)+b) (by omega) (by omega)]
 have h1:IntKind.u64.wrap ((a:Int)+b)=(a:Int)+b:=by
  unfold IntKind.wrap
  simp only [IntKind.bits,IntKind.signed]
  first | omega | (simp; omega)
 rw [h1]
 have h2:shrI .u64 ((a:Int)+b) 1=((a:Int)+b) / 2:=by
  unfold shrI
  simp only [IntKind.bits]
  rw [show (2:Int) ^ min (1:Int).toNat 64=2 from rfl]
  rw [Int.fdiv_eq_ediv_of_nonneg _ (by omega)]
 rw [h2,i64_of (by omega) (by omega)]
 omega
theorem bsearch_loop {l:List Gq3} {x:Gq4} {p2:Gq3→Gq4→Option Int} {f:Gq3→Int} {k:Nat} (hb:l.length<1000000) (hk:k≤l.length) (hf:∀ y ∈ l,p2 y x=some (f y)) (h:∀ q (hq:q<l.length),q<k ↔ f l[q]<0) :
  ∀ n (a b:Nat),a≤k→k≤b→b≤l.length→b - a<n→q1q l x p2 n a b=some ((k:Int),match l[k]? with | some y=>f y == 0 | .none=>false):=by
 intro n
 induction n with
 | zero=>intro a b _ _ _ h; omega
 | succ n ih =>
  intro a b ha hkb hbl hn
  simp only [q1q,q3q]
  by_cases hab:a<b
  ·have d:decide ((a:Int)<(b:Int))=true:=by simp; exact hab
   have hm:(a+b) / 2<l.length:=by omega
   simp only [d,if_true,mid_s (show a+b<1000000000 by omega),idx_lt hm,Option.bind_some,hf _ (List.getElem_mem hm)]
   by_cases hlt:f l[(a+b) / 2]<0
   ·have:=(h _ hm).2 hlt
    simp only [hlt,decide_true,if_true,nxtN (show (a+b) / 2<1000000000 by omega)]
    exact ih _ _ (by omega) hkb hbl (by omega)
   ·have:¬ (a+b) / 2<k:=fun hc=>hlt ((h _ hm).1 hc)
    simp only [hlt,decide_false,Bool.false_eq_true,if_false]
    exact ih _ _ ha (by omega) (by omega) (by omega)
  ·have d:decide ((a:Int)<(b:Int))=false:=by simp; omega
   have hak:a=k:=by omega
   subst hak
   simp only [d,Bool.false_eq_true,if_false]
   by_cases hal:a<l.length
   ·have d2:decide ((a:Int)<(l.length:Int))=true:=by simp; exact hal
    simp only [d2,if_true,idx_lt hal,Option.bind_some,hf _ (List.getElem_mem hal),List.getElem?_eq_getElem hal]
   ·have d2:decide ((a:Int)<(l.length:Int))=false:=by simp; omega
    simp only [d2,Bool.false_eq_true,if_false,Option.bind_some,List.getElem?_eq_none (show l.length≤a by omega)]
def lo (l:List Gq3) (x:Gq4):List Gq3:=l.takeWhile fun y=>ltE y.Entry x
def hi (l:List Gq3) (x:Gq4):List Gq3:=l.dropWhile fun y=>ltE y.Entry x
theorem lo_hi (l:List Gq3) (x:Gq4):lo l x++hi l x=l:=List.takeWhile_append_dropWhile
def SortE (l:List Gq3):Prop:=l.Pairwise fun a b=>ltE a.Entry b.Entry=true
theorem lo_lt {l:List Gq3} {x:Gq4} {y:Gq3} (h:y ∈ lo l x):ltE y.Entry x=true:=by
 have:=List.all_takeWhile (p:=fun y:Gq3=>ltE y.Entry x) (l:=l)
 rw [List.all_eq_true] at this
 exact this y h
theorem take_lo (l:List Gq3) (x:Gq4):l.take (lo l x).length=lo l x:=by
 have:=List.take_left (l₁:=lo l x) (l₂:=hi l x)
 rwa [lo_hi] at this
theorem drop_lo (l:List Gq3) (x:Gq4):l.drop (lo l x).length=hi l x:=by
 have:=List.drop_left (l₁:=lo l x) (l₂:=hi l x)
 rwa [lo_hi] at this
theorem drop_lo1 (l:List Gq3) (x:Gq4):l.drop ((lo l x).length+1)=(hi l x).drop 1:=by
 rw [← drop_lo,List.drop_drop]
theorem hi_head {l:List Gq3} {x:Gq4} {y:Gq3} {r:List Gq3} (h:hi l x=y :: r):¬ ltE y.Entry x=true:=by
 intro hc
 have:=List.head?_dropWhile_not (fun y:Gq3=>ltE y.Entry x) l
 unfold hi at h
 rw [h] at this
 simp [hc] at this
theorem hi_ge {l:List Gq3} {x:Gq4} (hs:SortE l) {y:Gq3} (h:y ∈ hi l x):¬ ltE y.Entry x=true:=by
 cases hh:hi l x with
 | nil=>rw [hh] at h; simp at h
 | cons z r =>
  have hz:=hi_head hh
  rw [hh] at h
  rcases List.mem_cons.1 h with rfl | h
  ·exact hz
  ·intro hc
   have hs':SortE (lo l x++z :: r):=by rw [← hh,lo_hi]; exact hs
   unfold SortE at hs'
   rw [List.pairwise_append,List.pairwise_cons] at hs'
   exact hz (ltE_trans (hs'.2.1.1 y h) hc)
def atE (l:List Gq3) (x:Gq4):Option Gq3:=match hi l x with | y :: _=>if eqE y.Entry x then some y else .none | []=>.none
theorem bsearch_s {F:Nat} (hF:10≤F) {l:List Gq3} {x:Gq4} (hs:SortE l) (hb:l.length<1000000) (hFl:l.length<F) :
  q2q F l x (fun a0 a1=>q87q F a0 a1)=some (((lo l x).length:Int),(atE l x).isSome):=by
 have hlen:(lo l x).length≤l.length:=by have:=congrArg List.length (lo_hi l x); simp at this; omega
 unfold q2q
 have:=bsearch_loop (l:=l) (x:=x) (p2:=fun a0 a1=>q87q F a0 a1) (f:=fun y=>cmpE y.Entry x) (k:=(lo l x).length) hb hlen (fun y _=>ecompare_s hF y x) (fun q hq=>?_) F 0 l.length (by omega) hlen (by omega) (by omega)
 ·show q1q l x _ F ((0:Nat):Int) _=_
  rw [this]
  have hk:l[(lo l x).length]?=(hi l x).head?:=by
   have e:=lo_hi l x
   conv=>lhs; rw [← e]
   rw [List.getElem?_append_right (by simp [lo_hi])]
   simp [lo_hi,List.head?_eq_getElem?]
  rw [hk]
  unfold atE
  cases hi l x with
  | nil=>rfl
  | cons y r =>
   simp only [List.head?_cons]
   by_cases he:eqE y.Entry x=true
   ·have:=cmpE_zero.2 he; simp [he,this]
   ·have:¬ cmpE y.Entry x=0:=fun h=>he (cmpE_zero.1 h)
    simp [he,this]
 ·rw [cmpE_lt]
  constructor
  ·intro h
   have:l[q]=(lo l x)[q]:=by
    have e:=lo_hi l x
    have:l[q]?=(lo l x)[q]?:=by
     conv=>lhs; rw [← e]
     rw [List.getElem?_append_left h]
    simpa [hq,h] using this
   rw [this]; exact lo_lt (List.getElem_mem _)
  ·intro h
   apply Classical.byContradiction
   intro hc
   have hm:l[q] ∈ hi l x:=by
    have e:=lo_hi l x
    have:l[q]?=(hi l x)[q - (lo l x).length]?:=by
     conv=>lhs; rw [← e]
     rw [List.getElem?_append_right (by omega)]
    rw [List.getElem?_eq_getElem hq] at this
    exact List.mem_of_getElem? this.symm
   exact hi_ge hs hm h
def stepS (l:List Gq3) (d:Gq2) (e:Gq5):List Gq3 × Int :=
 if vEvent e=false then ([],2) else
 if e.Stamp.Source ≠ 0∧e.Stamp.Source ≠ e.Entry.Centre then ([],28) else
 if d.Late<e.Stamp.Time then ([],27) else
 match atE l e.Entry with
 | some y =>
  if e.Kind=1 then (if y.Entry.Centre=e.Entry.Centre then ([],5) else ([],9))
  else if y.Entry.Centre ≠ e.Entry.Centre then ([],4)
  else if e.Kind=2 then (lo l e.Entry++(hi l e.Entry).drop 1,0)
  else (lo l e.Entry++⟨⟨y.Entry.Candidate,e.To,y.Entry.Paper⟩,y.Late⟩ :: (hi l e.Entry).drop 1,0)
 | .none=>if e.Kind=1 then (if 300≤l.length then ([],3) else (lo l e.Entry++⟨e.Entry,decide (d.Close<e.Stamp.Time)⟩ :: hi l e.Entry,0)) else ([],4)
theorem atE_some {l:List Gq3} {x:Gq4} {y:Gq3} (h:atE l x=some y):hi l x=y :: (hi l x).drop 1∧eqE y.Entry x=true:=by
 unfold atE at h
 cases hh:hi l x with
 | nil=>rw [hh] at h; cases h
 | cons z r =>
  rw [hh] at h
  simp only at h
  split at h
  ·cases h; rename_i h2; exact ⟨rfl,h2⟩
  ·cases h
theorem step_s {F:Nat} (hF:10≤F) {l:List Gq3} {d:Gq2} {e:Gq5} (hs:SortE l) (hb:l.length<1000000) (hFl:l.length<F):q154q F l d e=some (stepS l d e):=by
 unfold q154q stepS
 simp only [validEvent_s,Option.bind_some]
 cases vEvent e with
 | false=>simp
 | true =>
  simp only [Bool.not_true,Bool.false_eq_true,if_false,Bool.true_eq_false]
  by_cases h1:e.Stamp.Source ≠ 0∧e.Stamp.Source ≠ e.Entry.Centre
  ·simp [h1]
  ·have h1' : ((e.Stamp.Source != 0) && (e.Stamp.Source != e.Entry.Centre)) = false := by
    cases h:((e.Stamp.Source != 0) && (e.Stamp.Source != e.Entry.Centre)) with
    | false=>rfl
    | true=>exact absurd (by simpa using h) h1
   simp only [h1',Bool.false_eq_true,if_false,h1]
   by_cases h2:d.Late<e.Stamp.Time
   ·simp [h2]
   ·have h2' : decide (e.Stamp.Time > d.Late) = false := by simp; omega
    simp only [gt_iff_lt,h2,decide_false,Bool.false_eq_true,if_false,bsearch_s hF hs hb hFl,Option.bind_some]
    have hlh:=lo_hi l e.Entry
    have hlen:(lo l e.Entry).length+(hi l e.Entry).length=l.length:=by have:=congrArg List.length hlh; simpa using this
    rw [app_of (by simp; omega)]
    simp only [Option.bind_some,List.nil_append]
    cases hat:atE l e.Entry with
    | none =>
     simp only [Option.isSome_none,Bool.false_eq_true,if_false,Option.bind_some]
     by_cases hk:e.Kind=1
     ·simp only [hk,beq_self_eq_true,if_true]
      by_cases h300:300≤l.length
      ·have:decide ((l.length:Int) ≥ 300)=true:=by simp; omega
       simp [this,h300]
      ·have:decide ((l.length:Int) ≥ 300)=false:=by simp; omega
       simp only [this,Bool.false_eq_true,if_false,h300]
       unfold insF
       rw [if_pos (show 0≤((lo l e.Entry).length:Int)∧((lo l e.Entry).length:Int)≤l.length∧l.length≤549755813887 from ⟨by omega,by omega,by omega⟩)]
       simp only [Option.bind_some,Int.toNat_natCast]
       rw [take_lo,drop_lo]
       simp
     ·have hk':(e.Kind == 1)=false:=by simp [hk]
      simp [hk',hk]
    | some y =>
     obtain ⟨hh,heq⟩:=atE_some hat
     have hix:idx l ((lo l e.Entry).length:Int)=some y:=by
      have e3:l=lo l e.Entry++y :: (hi l e.Entry).drop 1:=by rw [← hh,hlh]
      have:=idx_at (lo l e.Entry) y ((hi l e.Entry).drop 1)
      rw [← e3] at this; exact this
     simp only [Option.isSome_some,if_true,hix,Option.bind_some]
     by_cases hk:e.Kind=1
     ·simp only [hk,beq_self_eq_true,if_true]
      by_cases hc:y.Entry.Centre=e.Entry.Centre
      ·simp [hc]
      ·simp [hc]
     ·have hk':(e.Kind == 1)=false:=by simp [hk]
      simp only [hk',Bool.false_eq_true,if_false,hk]
      by_cases hc:y.Entry.Centre=e.Entry.Centre
      ·have hlo:(lo l e.Entry).length<l.length:=by rw [hh] at hlen; simp at hlen; omega
       simp only [hc,beq_self_eq_true,Bool.not_true,Bool.false_eq_true,if_false,ne_eq,not_true_eq_false]
       have e1:=take_lo l e.Entry
       have e2:=drop_lo1 l e.Entry
       by_cases hk2:e.Kind=2
       ·simp only [hk2,beq_self_eq_true,if_true,nxtN (show (lo l e.Entry).length<1000000000 by omega)]
        unfold delF
        rw [if_pos (show 0≤((lo l e.Entry).length:Int)∧((lo l e.Entry).length:Int)<(((lo l e.Entry).length+1:Nat):Int)∧(((lo l e.Entry).length+1:Nat):Int)≤l.length from ⟨by omega,by omega,by omega⟩)]
        simp only [Option.bind_some,Int.toNat_natCast,e1,e2]
       ·have hk2':(e.Kind == 2)=false:=by simp [hk2]
        simp only [hk2',Bool.false_eq_true,if_false,hk2]
        have:l.set ((lo l e.Entry).length:Int).toNat ⟨⟨y.Entry.Candidate,e.To,y.Entry.Paper⟩,y.Late⟩=lo l e.Entry++⟨⟨y.Entry.Candidate,e.To,y.Entry.Paper⟩,y.Late⟩ :: (hi l e.Entry).drop 1:=by
         rw [List.set_eq_take_append_cons_drop,if_pos (by simpa using hlo)]
         simp only [Int.toNat_natCast,e1,e2]
        rw [this]
      ·simp [hc]
end Go.Sh
set_option linter.unusedVariables false
set_option linter.unusedSimpArgs false
namespace Go.Sh
open Go.L

structure VL (l:List Gq3):Prop where
 len:l.length≤300
 ok:∀ x ∈ l,vEntry x.Entry=true
 sort:SortE l
theorem hi_none {l:List Gq3} {x:Gq4} (hs:SortE l) (h:atE l x=.none):∀ y ∈ hi l x,eqE y.Entry x=false:=by
 intro y hy
 cases hh:hi l x with
 | nil=>rw [hh] at hy; simp at hy
 | cons z r =>
  have hz:=hi_head hh
  have hne:eqE z.Entry x=false:=by
   unfold atE at h; rw [hh] at h; simp only at h
   split at h
   ·cases h
   ·rename_i h2; simpa using h2
  rw [hh] at hy
  rcases List.mem_cons.1 hy with rfl | hy
  ·exact hne
  ·have hs':SortE (lo l x++z :: r):=by rw [← hh,lo_hi]; exact hs
   unfold SortE at hs'
   rw [List.pairwise_append,List.pairwise_cons] at hs'
   have h1:=hs'.2.1.1 y hy
   cases he:eqE y.Entry x with
   | false=>rfl
   | true=>rw [eqE_iff] at he; rw [ltE_iff] at h1 hz; exact absurd (by omega) hz
def dOk (p0:Gq2):Bool:=((decide (p0.Close ≥ 0)) && ((decide (p0.Close≤p0.Late)) && (decide (p0.Late≤1000000))))
end Go.Sh
set_option linter.unusedVariables false
set_option linter.unusedSimpArgs false
namespace Go.Sh
open Go.L

theorem ltE_of_not {a b:Gq4} (h1:¬ ltE a b=true) (h2:eqE a b=false):ltE b a=true:=by
 have h3:¬ eqE a b=true:=by simp [h2]
 rw [ltE_iff] at *; rw [eqE_iff] at h3; omega
theorem hi_gt {l:List Gq3} {x:Gq4} (hs:SortE l) (h:atE l x=.none) {y:Gq3} (hy:y ∈ hi l x):ltE x y.Entry=true :=
 ltE_of_not (hi_ge hs hy) (hi_none hs h y hy)
theorem hi_tail {l:List Gq3} {x:Gq4} (hs:SortE l) {y:Gq3} (h:atE l x=some y):SortE (lo l x++(hi l x).drop 1)∧(∀ z ∈ lo l x,ltE z.Entry y.Entry=true)∧∀ z ∈ (hi l x).drop 1,ltE y.Entry z.Entry=true:=by
 obtain ⟨h1,h2⟩:=atE_some h
 have hs':SortE (lo l x++y :: (hi l x).drop 1):=by rw [← h1,lo_hi]; exact hs
 unfold SortE at *
 rw [List.pairwise_append,List.pairwise_cons] at hs'
 refine ⟨?_,fun z hz=>hs'.2.2 z hz y (by simp),hs'.2.1.1⟩
 rw [List.pairwise_append]
 exact ⟨hs'.1,hs'.2.1.2,fun a ha b hb=>hs'.2.2 a ha b (List.mem_cons_of_mem _ hb)⟩
theorem mem_lh {l:List Gq3} {x:Gq4} {y:Gq3}:y ∈ l ↔ y ∈ lo l x ∨ y ∈ hi l x:=by
 rw [← List.mem_append,lo_hi]
theorem VL.step {l:List Gq3} {d:Gq2} {e:Gq5} (h:VL l) (h0:(stepS l d e).2=0):VL (stepS l d e).1:=by
 have hlh:=lo_hi l e.Entry
 have hlen:(lo l e.Entry).length+(hi l e.Entry).length=l.length:=by have:=congrArg List.length hlh; simpa using this
 have hl:=h.len
 unfold stepS at h0 ⊢
 by_cases hv:vEvent e=false
 ·simp [hv] at h0
 ·have hv' : vEvent e = true := by simpa using hv
  have hvE:vEntry e.Entry=true:=by unfold vEvent at hv'; simp only [Bool.and_eq_true] at hv'; exact hv'.1
  rw [if_neg hv] at h0 ⊢
  split at h0
  ·simp at h0
  ·split at h0
   ·simp at h0
   ·rename_i g1 g2
    rw [if_neg g1,if_neg g2]
    cases hat:atE l e.Entry with
    | none =>
     rw [hat] at h0
     simp only at h0 ⊢
     split at h0
     ·rename_i k1
      rw [if_pos k1]
      split at h0
      ·simp at h0
      ·rename_i k2
       rw [if_neg k2]
       have hs:=h.sort
       refine ⟨by simp; omega,fun x hx=>?_,?_⟩
       ·simp only [List.mem_append,List.mem_cons] at hx
        rcases hx with hx | rfl | hx
        ·exact h.ok x (mem_lh.2 (.inl hx))
        ·exact hvE
        ·exact h.ok x (mem_lh.2 (.inr hx))
       ·rw [← hlh] at hs
        unfold SortE at hs ⊢
        rw [List.pairwise_append] at hs ⊢
        rw [List.pairwise_cons]
        refine ⟨hs.1,⟨fun a ha=>hi_gt h.sort hat ha,hs.2.1⟩,fun a ha b hb=>?_⟩
        rcases List.mem_cons.1 hb with rfl | hb
        ·exact lo_lt ha
        ·exact hs.2.2 a ha b hb
     ·simp at h0
    | some y =>
     rw [hat] at h0
     simp only at h0 ⊢
     obtain ⟨q1,q2,q3⟩:=hi_tail h.sort hat
     obtain ⟨hh,heq⟩:=atE_some hat
     have hln:(lo l e.Entry).length+((hi l e.Entry).drop 1).length+1=l.length:=by rw [hh] at hlen; simp at hlen ⊢; omega
     split at h0
     ·split at h0 <;> simp at h0
     ·rename_i k1
      rw [if_neg k1]
      split at h0
      ·simp at h0
      ·rename_i k2
       rw [if_neg k2]
       split at h0
       ·rename_i k3
        rw [if_pos k3]
        refine ⟨by simp at hln ⊢; omega,fun x hx=>?_,q1⟩
        rcases List.mem_append.1 hx with hx | hx
        ·exact h.ok x (mem_lh.2 (.inl hx))
        ·exact h.ok x (mem_lh.2 (.inr (List.mem_of_mem_drop hx)))
       ·rename_i k3
        rw [if_neg k3]
        have hy:=h.ok y (mem_lh.2 (.inr (by rw [hh]; simp)))
        have hTo:e.To ≥ 1∧e.To≤99:=by
         unfold vEvent at hv'
         simp only [Bool.and_eq_true,Bool.or_eq_true,beq_iff_eq,decide_eq_true_eq,bne_iff_ne] at hv'
         omega
        refine ⟨by simp at hln ⊢; omega,fun x hx=>?_,?_⟩
        ·simp only [List.mem_append,List.mem_cons] at hx
         rcases hx with hx | rfl | hx
         ·exact h.ok x (mem_lh.2 (.inl hx))
         ·unfold vEntry at hy ⊢; simp only [Bool.and_eq_true,decide_eq_true_eq] at hy ⊢; omega
         ·exact h.ok x (mem_lh.2 (.inr (List.mem_of_mem_drop hx)))
        ·unfold SortE at q1 ⊢
         rw [List.pairwise_append] at q1 ⊢
         rw [List.pairwise_cons]
         refine ⟨q1.1,⟨fun a ha=>q3 a ha,q1.2.1⟩,fun a ha b hb=>?_⟩
         rcases List.mem_cons.1 hb with rfl | hb
         ·exact q2 a ha
         ·exact q1.2.2 a ha b hb
def foldS (d:Gq2) (u:Int):List Gq5→List Gq3→List Gq9→List Gq3 × List Gq9 × Int
 | [],l,r=>(l,r,0)
 | e :: s,l,r=>if u<e.Stamp.Time then foldS d u s l r else
  if (stepS l d e).2 ≠ 0 then foldS d u s l (r++[⟨⟨e.Stamp.Source,e.Stamp.Seq⟩,(stepS l d e).2⟩]) else foldS d u s (stepS l d e).1 r
def foldE (l:List Gq5) (d:Gq2) (u:Int):List Gq3 × List Gq9 × Int :=
 if dOk d=false then ([],[],1) else if (canonEv (·.Stamp) l).2 ≠ 0 then ([],[],(canonEv (·.Stamp) l).2) else foldS d u (canonEv (·.Stamp) l).1 [] []
theorem foldS_over {d:Gq2} {u:Int}:∀ {s:List Gq5} {l:List Gq3} {r:List Gq9},(∀ e ∈ s,u<e.Stamp.Time)→foldS d u s l r=(l,r,0)
 | [],_,_,_=>rfl
 | e :: s,l,r,h=>by
  have:=h e (by simp)
  simp only [foldS,this,if_true]
  exact foldS_over fun x hx=>h x (by simp [hx])
theorem efold_loop {F:Nat} (hF:2000≤F) {d:Gq2} {u c:Int} {ev:List Gq5} (hb:ev.length<1000000) (hs:ev.Pairwise fun a b=>cmpSt a.Stamp b.Stamp<0):∀ (s p:List Gq5) (n:Nat) (l:List Gq3) (r:List Gq9),ev=p++s→s.length<n→VL l→r.length≤p.length →
  q86q F d u (ev,c) n l (p.length:Int) r=some (foldS d u s l r):=by
 intro s
 induction s with
 | nil=>intro p n l r hp hn hV hr; cases n with
  | zero=>omega
  | succ n =>
   have:ev=p:=by simpa using hp
   subst this
   simp only [q86q,q125q,Int.lt_irrefl,decide_false,Bool.false_eq_true,if_false,foldS]
 | cons e s ih=>intro p n l r hp hn hV hr; cases n with
  | zero=>omega
  | succ n =>
   have hlen:p.length<1000000:=by rw [hp] at hb; simp at hb; omega
   have hl:=hV.len
   have d1:decide ((p.length:Int)<(ev.length:Int))=true:=by rw [hp]; exact dlt p e s
   have i1:idx ev (p.length:Int)=some e:=by rw [hp]; exact idx_at p e s
   have hp':ev=(p++[e])++s:=by rw [hp]; simp
   simp only [q86q,q125q,d1,if_true,i1,Option.bind_some,foldS,gt_iff_lt]
   by_cases hu:u<e.Stamp.Time
   ·simp only [hu,decide_true,if_true]
    rw [foldS_over]
    intro x hx
    rw [hp,List.pairwise_append,List.pairwise_cons] at hs
    have:=hs.2.1.1 x hx
    rw [cmpSt_lt] at this; omega
   ·simp only [hu,decide_false,Bool.false_eq_true,if_false,step_s (show 10≤F by omega) hV.sort (show l.length<1000000 by omega) (show l.length<F by omega),Option.bind_some,bne_iff_ne]
    rw [nxt p e (by omega)]
    by_cases h0:(stepS l d e).2=0
    ·simp only [h0,ne_eq,not_true_eq_false,if_false]
     exact ih (p++[e]) n _ r hp' (by simpa using hn) (hV.step h0) (by simp; omega)
    ·simp only [h0,ne_eq,not_false_eq_true,if_true]
     rw [app_of (by simp; omega)]
     simp only [Option.bind_some]
     exact ih (p++[e]) n l _ hp' (by simpa using hn) hV (by simp; omega)
theorem vl_nil:VL []:=⟨by simp,by simp,by simp [SortE]⟩
theorem canonEv_sorted {E:Type} [DecidableEq E] (st:E→Gq10) (l:List E):(canonEv st l).1.Pairwise fun a b=>cmpSt (st a) (st b)<0:=by
 unfold canonEv
 split
 ·simp
 ·exact (evL_is st l).sorted
theorem canonEv_le {E:Type} [DecidableEq E] (st:E→Gq10) (l:List E):(canonEv st l).1.length≤l.length:=by
 unfold canonEv
 split
 ·simp
 ·exact evL_le st l
theorem efold_s {F:Nat} (hF:2000≤F) {l:List Gq5} {d:Gq2} {u:Int} (hl:l.length≤1000):q144q F l d u=some (foldE l d u):=by
 have hd:q99q d=some (dOk d):=rfl
 have hle:=canonEv_le (·.Stamp) l
 unfold q144q foldE
 simp only [hd,Option.bind_some]
 cases hdd:dOk d with
 | false=>simp
 | true =>
  simp only [Bool.not_true,Bool.false_eq_true,if_false,Bool.true_eq_false,canonicalP_s (show 10≤F by omega) (show l.length<1000000 by omega) (show l.length<F by omega),Option.bind_some,bne_iff_ne,ne_eq]
  have hso:=canonEv_sorted (fun x:Gq5=>x.Stamp) l
  revert hle hso
  generalize canonEv (fun x:Gq5=>x.Stamp) l=ce
  intro hle hso
  by_cases h0:ce.2=0
  ·simp only [h0,not_true_eq_false,if_false]
   have b1:ce.1.length<1000000:=by omega
   have b2:ce.1.length<F:=by omega
   exact efold_loop hF (c:=ce.2) b1 hso ce.1 [] F [] [] rfl b2 vl_nil (by simp)
  ·simp only [h0,not_false_eq_true,if_true]
theorem foldS_inv {d:Gq2} {u:Int} {I:List Gq3→Prop}:∀ {s:List Gq5} {l:List Gq3} {r:List Gq9},I l→(∀ e ∈ s,e.Stamp.Time≤u→∀ l,I l→(stepS l d e).2=0→I (stepS l d e).1)→I (foldS d u s l r).1
 | [],_,_,h,_=>h
 | e :: s,l,r,h,hs=>by
  simp only [foldS]
  split
  ·exact foldS_inv h fun x hx=>hs x (by simp [hx])
  ·rename_i hu
   split
   ·exact foldS_inv h fun x hx=>hs x (by simp [hx])
   ·rename_i h0
    exact foldS_inv (hs e (by simp) (by omega) l h (Classical.not_not.1 h0)) fun x hx=>hs x (by simp [hx])
theorem foldS_code {d:Gq2} {u:Int}:∀ {s:List Gq5} {l:List Gq3} {r:List Gq9},(foldS d u s l r).2.2=0
 | [],_,_=>rfl
 | e :: s,l,r=>by
  simp only [foldS]
  split
  ·exact foldS_code
  ·split <;> exact foldS_code
theorem foldE_vl {l:List Gq5} {d:Gq2} {u:Int}:VL (foldE l d u).1:=by
 unfold foldE
 split
 ·exact vl_nil
 ·split
  ·exact vl_nil
  ·exact foldS_inv vl_nil fun e _ _ l hl h0=>hl.step h0
theorem foldE_small {l:List Gq5} {d:Gq2} {u:Int} (hl:l.length≤300) (hd:dOk d=true):foldE l d u=foldS d u (evL (·.Stamp) l) [] []:=by
 unfold foldE
 rw [canonEv_small hl]; simp [hd]
end Go.Sh
set_option linter.unusedVariables false
set_option linter.unusedSimpArgs false
namespace Go.Sh
open Go.L

section
variable {R:Type} {rec1:Int→List Int→Int→List Gq5→Option (List Gq5 × GTape)} {n2:Int} {l5:List Gq5} {Post:List Gq5 × GTape→Prop}
theorem evJ4 (hl:l5.length≤1000) (h:∀ v t',Tp t'→v.length≤l5.length+2→∃ r,rec1 (i64 (n2 - 1)) t'.L t'.At v=some r∧Post r) {a b c d e f g i:Int} {L:List Int} {A:Int} (ht:Tp (GTape.mk L A)) :
  ∃ r,Gq16 rec1 n2 l5 a b c d e f g i L A=some r∧Post r:=by
 unfold Gq16
 rw [app_of (by simp; omega)]
 simp only [Option.bind_some]
 obtain ⟨x,t1,h1,h2⟩:=one_s ht 8 (by omega)
 simp only [h1,Option.bind_some]
 cases x with
 | false=>exact h _ t1 h2 (by simp)
 | true =>
  simp only [if_true]
  obtain ⟨y,t2,h3,h4,h5,h6,_⟩:=next_s h2 ((l5++[Gq5.mk (Gq10.mk a b c) d (Gq4.mk e f g) i]).length:Int) (by simp; omega)
  have hy:=h6 (by simp; omega)
  rw [h3]
  simp only [Option.bind_some]
  have hix:idx (l5++[Gq5.mk (Gq10.mk a b c) d (Gq4.mk e f g) i]) y=some (l5++[Gq5.mk (Gq10.mk a b c) d (Gq4.mk e f g) i])[y.toNat]:=by
   rw [idx_some]; exact ⟨h5,by simp⟩
  rw [hix]
  simp only [Option.bind_some]
  rw [app_of (by simp; omega)]
  simp only [Option.bind_some]
  exact h _ t2 h4 (by simp)
theorem evJ3 {p2:Int} (hp:p2≤1000000) (hl:l5.length≤1000) (h:∀ v t',Tp t'→v.length≤l5.length+2→∃ r,rec1 (i64 (n2 - 1)) t'.L t'.At v=some r∧Post r) {r7 r8 r9 r10 r11:Int × GTape} {n14 n17:Int} {L:List Int} {A:Int} (ht:Tp (GTape.mk L A)) :
  ∃ r,Gq15 rec1 p2 n2 l5 r7 r8 r9 r10 r11 n14 L A n17=some r∧Post r:=by
 unfold Gq15
 have key:∃ (b:Bool) (L':List Int) (A':Int),(if (decide (p2 > 0))=true then (Gq30 (GTape.mk L A) p2).bind fun r39=>some (r39.1,r39.2.L,r39.2.At) else some (false,L,A))=some (b,L',A')∧Tp (GTape.mk L' A'):=by
  by_cases hp0:p2 > 0
  ·obtain ⟨x,t1,h1,h2⟩:=one_s ht p2 (by omega)
   exact ⟨x,t1.L,t1.At,by simp only [hp0,decide_true,if_true,h1,Option.bind_some],h2⟩
  ·exact ⟨false,L,A,by simp [hp0],ht⟩
 obtain ⟨b,L',A',h1,h2⟩:=key
 rw [h1]
 simp only [Option.bind_some]
 cases b with
 | false=>exact evJ4 hl h h2
 | true =>
  simp only [if_true]
  obtain ⟨y,t2,h3,h4,_⟩:=next_s h2 6 (by omega)
  simp only [h3,Option.bind_some]
  by_cases y0:y=0
  ·obtain ⟨z,t3,h5,h6,_⟩:=range_s h4 (-1) 4 (by omega) (by omega) (by omega)
   simp only [y0,beq_self_eq_true,if_true,h5,Option.bind_some]
   exact evJ4 hl h (tp_mk h6)
  ·by_cases y1:y=1
   ·obtain ⟨z,t3,h5,h6⟩:=wild_s h4
    simp only [y1,show ((1:Int) == 0)=false from rfl,Bool.false_eq_true,if_false,beq_self_eq_true,if_true,h5,Option.bind_some]
    exact evJ4 hl h (tp_mk h6)
   ·by_cases y2:y=2
    ·obtain ⟨z,t3,h5,h6,_⟩:=pick_s h4 [0,1,99,100] (by simp) (by simp)
     simp only [y2,show ((2:Int) == 0)=false from rfl,show ((2:Int) == 1)=false from rfl,Bool.false_eq_true,if_false,beq_self_eq_true,if_true,h5,Option.bind_some]
     exact evJ4 hl h (tp_mk h6)
    ·by_cases y3:y=3
     ·obtain ⟨z,t3,h5,h6,_⟩:=pick_s h4 [-1,31,32] (by simp) (by simp)
      simp only [y3,show ((3:Int) == 0)=false from rfl,show ((3:Int) == 1)=false from rfl,show ((3:Int) == 2)=false from rfl,Bool.false_eq_true,if_false,beq_self_eq_true,if_true,h5,Option.bind_some]
      exact evJ4 hl h (tp_mk h6)
     ·by_cases y4:y=4
      ·obtain ⟨z,t3,h5,h6⟩:=tstamp_s h4 4 (by omega)
       simp only [y4,show ((4:Int) == 0)=false from rfl,show ((4:Int) == 1)=false from rfl,show ((4:Int) == 2)=false from rfl,show ((4:Int) == 3)=false from rfl,Bool.false_eq_true,if_false,beq_self_eq_true,if_true,h5,Option.bind_some]
       exact evJ4 hl h (tp_mk h6)
      ·obtain ⟨z,t3,h5,h6,_⟩:=pick_s h4 [0,99,100,r7.1] (by simp) (by simp)
       have b0:(y == 0)=false:=by simp [y0]
       have b1:(y == 1)=false:=by simp [y1]
       have b2:(y == 2)=false:=by simp [y2]
       have b3:(y == 3)=false:=by simp [y3]
       have b4:(y == 4)=false:=by simp [y4]
       simp only [b0,b1,b2,b3,b4,Bool.false_eq_true,if_false,h5,Option.bind_some]
       exact evJ4 hl h (tp_mk h6)
theorem evJ2 {p2:Int} (hp:p2≤1000000) (hl:l5.length≤1000) (h:∀ v t',Tp t'→v.length≤l5.length+2→∃ r,rec1 (i64 (n2 - 1)) t'.L t'.At v=some r∧Post r) {r7 r8 r9 r10 r11:Int × GTape} {n14:Int} {L:List Int} {A:Int} (ht:Tp (GTape.mk L A)) :
  ∃ r,Gq14 rec1 p2 n2 l5 r7 r8 r9 r10 r11 L A n14=some r∧Post r:=by
 unfold Gq14
 by_cases hk:r9.1=3
 ·obtain ⟨y,t2,h3,h4,_⟩:=next_s ht 2 (by omega)
  obtain ⟨z,h5,_⟩:=cut_s (i64 (r7.1+y)) 3 (by omega)
  simp only [hk,beq_self_eq_true,if_true,h3,h5,Option.bind_some]
  exact evJ3 hp hl h (tp_mk h4)
 ·have:(r9.1 == 3)=false:=by simp [hk]
  simp only [this,Bool.false_eq_true,if_false]
  exact evJ3 hp hl h ht
end
theorem entryEvents_s {F:Nat} {t:GTape} (h:Tp t) (most:Nat) (p:Int) (hp:p≤1000000) (hm:most≤100) (hF:most<F):∃ l t',Gq13 F t most p=some (l,t')∧Tp t'∧l.length≤2 * most:=by
 have key:∀ n (k:Int) (L:List Int) (A:Int) (l:List Gq5),(0≤k∧(l.length:Int)+2 * k≤2 * most∧Tp (GTape.mk L A))→k.toNat<n→∃ r,Gq17 p n k L A l=some r∧(Tp r.2∧r.1.length≤2 * most):=by
  refine loop4 (L:=Gq17 p) (B:=Gq18 p) (fun _=>rfl) _ (fun (k:Int) (_:List Int) (_:Int) (_:List Gq5)=>k.toNat) _ ?_
  rintro rec k L A l ⟨hk,hl,ht⟩ hrec
  unfold Gq18
  by_cases hk0:k > 0
  ·obtain ⟨a,t1,a1,a2,_⟩:=range_s ht 1 3 (by omega) (by omega) (by omega)
   obtain ⟨b,t2,b1,b2,_⟩:=range_s a2 0 24 (by omega) (by omega) (by omega)
   obtain ⟨c,t3,c1,c2,_⟩:=pick_s b2 [1,1,1,2,3] (by simp) (by simp)
   obtain ⟨d,t4,d1,d2,_⟩:=next_s c2 4 (by omega)
   obtain ⟨e,t5,e1,e2,_⟩:=next_s d2 2 (by omega)
   obtain ⟨f,t6,f1,f2⟩:=one_s e2 6 (by omega)
   simp only [hk0,decide_true,if_true,a1,b1,c1,d1,e1,f1,Option.bind_some]
   have hgo:∀ v t',Tp t'→v.length≤l.length+2→∃ r,rec (i64 (k - 1)) t'.L t'.At v=some r∧(Tp r.2∧r.1.length≤2 * most):=fun v t' h1 h2=>by
    rw [i64_of (by omega) (by omega)]
    exact hrec _ _ _ _ ⟨by omega,by omega,h1⟩ (by omega)
   cases f with
   | true=>exact evJ2 hp (by omega) hgo (tp_mk f2)
   | false=>exact evJ2 hp (by omega) hgo (tp_mk f2)
  ·simp only [hk0,decide_false,Bool.false_eq_true,if_false]
   exact ⟨_,rfl,ht,by simp only; omega⟩
 obtain ⟨a,t1,a1,a2,a3,a4⟩:=range_s h 0 most (by omega) (by omega) (by omega)
 obtain ⟨⟨l,t'⟩,h1,h2,h3⟩:=key F a t1.L t1.At [] ⟨a3,by simp; omega,a2⟩ (by omega)
 exact ⟨l,t',by simp only [Gq13,a1,Option.bind_some]; exact h1,h2,h3⟩
theorem deadlines_s {t:GTape} (h:Tp t) (p:Int) (hp:p≤1000000):∃ d t',Gq11 t p=some (d,t')∧Tp t'∧(p=0→dOk d=true∧4≤d.Close∧d.Late≤24):=by
 unfold Gq11
 obtain ⟨a,t1,a1,a2,a3,a4⟩:=range_s h 4 14 (by omega) (by omega) (by omega)
 obtain ⟨b,t2,b1,b2,b3,b4,_⟩:=next_s a2 10 (by omega)
 have b5:=b4 (by omega)
 simp only [a1,b1,Option.bind_some]
 have key:∃ (c:Bool) (L':List Int) (A':Int),(if (decide (p > 0))=true then (Gq30 t2 p).bind fun r8=>some (r8.1,r8.2.L,r8.2.At) else some (false,t2.L,t2.At))=some (c,L',A')∧Tp (GTape.mk L' A')∧(p=0→c=false):=by
  by_cases hp0:p > 0
  ·obtain ⟨x,t1,h1,h2⟩:=one_s b2 p (by omega)
   exact ⟨x,t1.L,t1.At,by simp only [hp0,decide_true,if_true,h1,Option.bind_some],h2,by omega⟩
  ·exact ⟨false,t2.L,t2.At,by simp [hp0],b2,fun _=>rfl⟩
 obtain ⟨c,L',A',h1,h2,h3⟩:=key
 rw [h1]
 simp only [Option.bind_some]
 cases c with
 | true =>
  obtain ⟨x,t3,c1,c2⟩:=wild_s h2
  obtain ⟨y,t4,d1,d2⟩:=wild_s c2
  simp only [if_true,c1,d1,Option.bind_some]
  exact ⟨_,_,rfl,d2,fun h=>by have:=h3 h; cases this⟩
 | false =>
  simp only [Bool.false_eq_true,if_false]
  rw [i64_of (by omega) (by omega)]
  refine ⟨_,_,rfl,h2,fun _=>⟨?_,by simp only; omega,by simp only; omega⟩⟩
  unfold dOk; simp only [Bool.and_eq_true,decide_eq_true_eq]; omega
end Go.Sh
set_option linter.unusedVariables false
set_option linter.unusedSimpArgs false
namespace Go.Sh
open Go.L
theorem orI_le {a b:Int} (h1:0≤a) (h2:a≤63) (h3:0≤b) (h4:b≤63):0≤orI .i64 a b∧orI .i64 a b≤63:=by
 obtain ⟨n,rfl⟩:=Int.eq_ofNat_of_zero_le h1
 obtain ⟨m,rfl⟩:=Int.eq_ofNat_of_zero_le h3
 have hb:=Nat.or_lt_two_pow (n:=6) (x:=n) (y:=m) (by omega) (by omega)
 have e:(BitVec.ofInt 64 (n:Int) ||| BitVec.ofInt 64 (m:Int)).toNat=n ||| m:=by
  rw [BitVec.toNat_or,BitVec.toNat_ofInt,BitVec.toNat_ofInt]
  congr 1 <;> omega
 unfold orI
 show 0≤i64 (((BitVec.ofInt 64 (n:Int) ||| BitVec.ofInt 64 (m:Int)).toNat:Nat):Int)∧i64 (((BitVec.ofInt 64 (n:Int) ||| BitVec.ofInt 64 (m:Int)).toNat:Nat):Int)≤63
 rw [e,i64_of (by omega) (by omega)]
 omega
def evOk (x:Gq6) (k:Gq1) (c t:Int):Bool:=!((x.Candidate != c) || !(decide (x.Kind ≥ 1) && decide (x.Kind≤9)) || !(decide (x.Level ≥ 1) && decide (x.Level≤9)) || decide (x.From > t) || decide (t > x.Until)) && ((x.Kind == k.Kind) && (decide (x.Level ≥ k.Least)))
theorem applies_s {k:Gq1} {ev:List Gq6} {c t:Int} (hl:ev.length<1000000) {F:Nat} (hF:ev.length<F):q103q F k ev c t=some (ev.any fun x=>evOk x k c t):=by
 have:=scanLoop (L:=q25q k ev c t) (a:=ev) (fun _ x=>if evOk x k c t=true then some true else .none) false (F:=F) hl (fun n i x hx hi=>?_) (fun n=>?_) hF
 ·show q25q k ev c t F 0=_
  rw [this]
  congr 1
  have key:∀ (l:List Gq6) (i:Nat),scan (fun (_:Nat) x=>if evOk x k c t=true then some true else .none) false i l=l.any fun x=>evOk x k c t:=by
   intro l
   induction l with
   | nil=>intro i; rfl
   | cons x l ih =>
    intro i
    unfold scan
    cases h:evOk x k c t with
    | true=>simp [h]
    | false=>simp [h,ih]
  exact key ev 0
 ·show q26q k ev c t (q25q k ev c t n) (i:Int)=_
  unfold q26q
  rw [dltN hx,if_pos rfl,idxN hx,Option.bind_some,nxtI hi]
  have hw:(if (x.Candidate != c)=true then some true else (q12q x.Kind).bind fun r7=>if (!r7)=true then some true else (q12q x.Level).bind fun r9=>if (!r9)=true then some true else if (decide (x.From > t))=true then some true else some (decide (t > x.Until)))=some ((x.Candidate != c) || !(decide (x.Kind ≥ 1) && decide (x.Kind≤9)) || !(decide (x.Level ≥ 1) && decide (x.Level≤9)) || decide (x.From > t) || decide (t > x.Until)):=by
   unfold q12q
   simp only [Option.bind_some]
   cases (x.Candidate != c) <;> cases (decide (x.Kind ≥ 1) && decide (x.Kind≤9)) <;> cases (decide (x.Level ≥ 1) && decide (x.Level≤9)) <;> cases decide (x.From > t) <;> simp
  rw [hw,Option.bind_some]
  unfold evOk
  cases ((x.Candidate != c) || !(decide (x.Kind ≥ 1) && decide (x.Kind≤9)) || !(decide (x.Level ≥ 1) && decide (x.Level≤9)) || decide (x.From > t) || decide (t > x.Until)) <;> cases ((x.Kind == k.Kind) && (decide (x.Level ≥ k.Least))) <;> simp
 ·show q26q k ev c t (q25q k ev c t n) (ev.length:Int)=_
  unfold q26q
  rw [dgeN]; rfl
theorem grant_congr {k:List Gq1} {e1 e2:List Gq6} {c t:Int} {F:Nat} (h:∀ x,q103q F x e1 c t=q103q F x e2 c t):q20q F k e1 c t=q20q F k e2 c t:=by
 have key:∀ n,q19q F k e1 c t n=q19q F k e2 c t n:=by
  intro n
  induction n with
  | zero=>rfl
  | succ n ih =>
   funext a l
   show q18q F k e1 c t (q19q F k e1 c t n) a l=q18q F k e2 c t (q19q F k e2 c t n) a l
   rw [ih]
   unfold q18q
   simp only [h]
 unfold q20q q102q
 simp only [key]
def RulesOk (k:List Gq1):Prop:=k.length≤12∧∀ x ∈ k,1≤x.Kind∧x.Kind≤9∧1≤x.Least∧x.Least≤9∧0≤x.Extra∧x.Extra≤100∧0≤x.Needs∧x.Needs≤63
theorem acheck_s {k:List Gq1} (h:RulesOk k) {F:Nat} (hF:20<F):q130q F k=some 0:=by
 obtain ⟨h1,h2⟩:=h
 unfold q130q
 rw [if_neg (by simp; omega)]
 obtain ⟨r,e,rfl⟩:Suc (q80q k F 0) (·=0):=by
  refine loop1 (L:=q80q k) (B:=q92q k) (fun _=>rfl) (fun a=>∃ i:Nat,a=(i:Int)) (fun a=>k.length - a.toNat) _ ?_ F 0 ⟨0,rfl⟩ (by omega)
  rintro rec a ⟨i,rfl⟩ ih
  unfold q92q
  refine Suc.ite (fun hlt=>?_) fun _=>Suc.pure rfl
  have hlt:i<k.length:=by simpa using hlt
  refine Suc.at (List.getElem?_eq_getElem hlt) ?_
  obtain ⟨q1,q2,q3,q4,q5,q6,q7,q8⟩:=h2 k[i] (List.getElem_mem _)
  have hw:((q12q k[i].Kind).bind fun r7=>if (!r7)=true then some true else (q12q k[i].Least).bind fun r9=>if (!r9)=true then some true else (q111q (Gq0.mk k[i].Extra k[i].Needs)).bind fun r11=>some (!r11))=some false:=by
   simp [q12q,q111q,q1,q2,q3,q4,q5,q6,q7,q8]
  rw [hw,Option.bind_some,if_neg (by simp),nxtI (by omega)]
  exact ih _ ⟨i+1,rfl⟩ (by simp; omega)
 exact e
theorem grant_s {k:List Gq1} {ev:List Gq6} {c t:Int} (h:RulesOk k) (hl:ev.length<1000) {F:Nat} (hF:1100<F):Suc (q20q F k ev c t) fun r=>r.2=0∧0≤r.1.Needs∧r.1.Needs≤63:=by
 have h2:=h.2
 have h1:=h.1
 have hr:Suc (q102q F k ev c t) fun l=>l.length≤k.length∧∀ x ∈ l,0≤x∧x.toNat<k.length:=by
  unfold q102q
  rw [acheck_s h (by omega),Option.bind_some,if_neg (by simp)]
  refine loop2 (L:=q19q F k ev c t) (B:=q18q F k ev c t) (fun _=>rfl) (fun a l=>∃ i:Nat,a=(i:Int)∧i≤k.length∧l.length≤i∧∀ x ∈ l,0≤x∧x.toNat<k.length) (fun a _=>k.length - a.toNat) _ ?_ F 0 [] ⟨0,rfl,by omega,by simp,by simp⟩ (by omega)
  rintro rec a l ⟨i,rfl,hi,hli,hx⟩ ih
  unfold q18q
  refine Suc.ite (fun hlt=>?_) fun _=>Suc.pure ⟨by omega,hx⟩
  have hlt:i<k.length:=by simpa using hlt
  refine Suc.at (List.getElem?_eq_getElem hlt) ?_
  rw [applies_s (by omega) (by omega),Option.bind_some,nxtI (by omega)]
  refine Suc.ite (fun _=>?_) fun _=>?_
  ·refine Suc.app (by simp; omega) ?_
   refine ih _ _ ⟨i+1,rfl,by omega,by simp; omega,fun x hx'=>?_⟩ (by simp; omega)
   rcases List.mem_append.1 hx' with hx' | hx'
   ·exact hx x hx'
   ·have:x=(i:Int):=by simpa using hx'
    subst this
    exact ⟨by omega,by simpa using hlt⟩
  ·exact ih _ _ ⟨i+1,rfl,by omega,by omega,hx⟩ (by simp; omega)
 unfold q20q
 rw [acheck_s h (by omega),Option.bind_some,if_neg (by simp)]
 refine hr.bind fun r3 h3=>?_
 obtain ⟨h3,h4⟩:=h3
 refine loop2 (L:=q122q F k r3) (B:=q93q F k r3) (fun _=>rfl) (fun a l=>∃ i:Nat,a=(i:Int)∧i≤r3.length∧l.length≤i∧∀ x ∈ l,0≤x.Needs∧x.Needs≤63) (fun a _=>r3.length - a.toNat) _ ?_ F 0 [] ⟨0,rfl,by omega,by simp,by simp⟩ (by omega)
 rintro rec a l ⟨i,rfl,hi,hli,hx⟩ ih
 unfold q93q
 refine Suc.ite (fun hlt=>?_) fun _=>?_
 ·have hlt:i<r3.length:=by simpa using hlt
  obtain ⟨q1,q2⟩:=h4 r3[i] (List.getElem_mem _)
  obtain ⟨j,hj⟩:=Int.eq_ofNat_of_zero_le q1
  rw [hj,Int.toNat_natCast] at q2
  refine Suc.at (List.getElem?_eq_getElem hlt) ?_
  rw [hj]
  refine Suc.at (List.getElem?_eq_getElem q2) (Suc.at (List.getElem?_eq_getElem q2) ?_)
  refine Suc.app (by simp; omega) ?_
  rw [nxtI (by omega)]
  refine ih _ _ ⟨i+1,rfl,by omega,by simp; omega,fun x hx'=>?_⟩ (by simp; omega)
  rcases List.mem_append.1 hx' with hx' | hx'
  ·exact hx x hx'
  ·have:x=Gq0.mk k[j].Extra k[j].Needs:=by simpa using hx'
   subst this
   have:=h2 k[j] (List.getElem_mem _)
   exact ⟨this.2.2.2.2.2.2.1,this.2.2.2.2.2.2.2⟩
 have hj:Suc (q149q F l) fun r=>0≤r.Needs∧r.Needs≤63:=by
  refine loop3 (L:=q110q l) (B:=q63q l) (fun _=>rfl) (fun a b c=>(∃ i:Nat,a=(i:Int))∧0≤c∧c≤63) (fun a _ _=>l.length - a.toNat) _ ?_ F 0 0 0 ⟨⟨0,rfl⟩,by omega,by omega⟩ (by omega)
  rintro rec a b c ⟨⟨i,rfl⟩,c1,c2⟩ ih
  unfold q63q
  refine Suc.ite (fun hlt=>?_) fun _=>Suc.pure ⟨c1,c2⟩
  have hlt:i<l.length:=by simpa using hlt
  refine Suc.at (List.getElem?_eq_getElem hlt) ?_
  obtain ⟨q1,q2⟩:=hx l[i] (List.getElem_mem _)
  have:=orI_le c1 c2 q1 q2
  rw [nxtI (by omega)]
  exact ih _ _ _ ⟨⟨i+1,rfl⟩,this.1,this.2⟩ (by simp; omega)
 refine hj.bind fun r hr=>?_
 have himp:Suc (q141q r) fun r=>0≤r.Needs∧r.Needs≤63:=by
  unfold q141q q111q
  simp only [Option.bind_some]
  refine Suc.ite (fun _=>Suc.pure ⟨by simp,by simp⟩) fun _=>Suc.ite (fun _=>Suc.pure ?_) fun _=>Suc.pure hr
  exact orI_le hr.1 hr.2 (by omega) (by omega)
 exact himp.bind fun r hr=>Suc.pure ⟨rfl,hr⟩
theorem stepS_len (l:List Gq3) (d:Gq2) (e:Gq5):(stepS l d e).1.length≤l.length+1:=by
 have hlh:(lo l e.Entry).length+(hi l e.Entry).length=l.length:=by rw [← List.length_append,lo_hi]
 unfold stepS
 split
 ·simp
 split
 ·simp
 split
 ·simp
 split
 ·rename_i y hy
  split
  ·split <;> simp
  split
  ·simp
  split <;> simp <;> omega
 ·split
  ·split <;> simp <;> omega
  ·simp
theorem foldS_len {d:Gq2} {u:Int}:∀ {s:List Gq5} {l:List Gq3} {r:List Gq9},(foldS d u s l r).1.length≤l.length+s.length
 | [],_,_=>by simp [foldS]
 | e :: s,l,r=>by
  simp only [foldS]
  split
  ·have:=foldS_len (d:=d) (u:=u) (s:=s) (l:=l) (r:=r); simp; omega
  ·split
   ·have:=foldS_len (d:=d) (u:=u) (s:=s) (l:=l) (r:=r++[⟨⟨e.Stamp.Source,e.Stamp.Seq⟩,(stepS l d e).2⟩]); simp at this ⊢; omega
   ·have:=foldS_len (d:=d) (u:=u) (s:=s) (l:=(stepS l d e).1) (r:=r); have:=stepS_len l d e; simp; omega
theorem foldE_len {l:List Gq5} {d:Gq2} {u:Int}:(foldE l d u).1.length≤l.length:=by
 unfold foldE
 split
 ·simp
 ·split
  ·simp
  ·have:=foldS_len (d:=d) (u:=u) (s:=(canonEv (·.Stamp) l).1) (l:=[]) (r:=[])
   have:=canonEv_le (·.Stamp) l
   simp at *; omega
theorem paper_s {l:List Gq3} (h:VL l) (q:Int) {F:Nat} (hF:400<F):Suc (q148q F l q) fun r=>r.length≤l.length∧(∀ x ∈ r,0≤x.Entry.Candidate∧x.Entry.Candidate≤9999)∧r.Pairwise fun a b=>a.Entry.Candidate<b.Entry.Candidate:=by
 have hlen:=h.len
 refine loop2 (L:=q131q l q) (B:=q112q l q) (fun _=>rfl) (fun a r=>∃ i:Nat,a=(i:Int)∧i≤l.length∧r=(l.take i).filter fun x=>x.Entry.Paper == q) (fun a _=>l.length - a.toNat) _ ?_ F 0 [] ⟨0,rfl,by omega,by simp⟩ (by omega)
 rintro rec a r ⟨i,rfl,hi,rfl⟩ ih
 unfold q112q
 refine Suc.ite (fun hlt=>?_) fun hlt=>?_
 ·have hlt:i<l.length:=by simpa using hlt
  have htk:l.take (i+1)=l.take i++[l[i]]:=by simp
  have hfl:=List.length_filter_le (fun x:Gq3=>x.Entry.Paper == q) (l.take i)
  rw [List.length_take] at hfl
  refine Suc.at (List.getElem?_eq_getElem hlt) ?_
  rw [nxtI (by omega)]
  refine Suc.ite (fun hq=>?_) fun hq=>?_
  ·refine Suc.app (by rw [List.length_singleton]; omega) ?_
   refine ih _ _ ⟨i+1,rfl,by omega,?_⟩ (by simp; omega)
   rw [htk,List.filter_append]; simp only [List.filter_cons,hq,if_true,List.filter_nil]
  ·refine ih _ _ ⟨i+1,rfl,by omega,?_⟩ (by simp; omega)
   rw [htk,List.filter_append]; simp [List.filter_cons,hq]
 ·have hie:i=l.length:=by
   have:¬ ((i:Int)<(l.length:Int)):=by simpa using hlt
   omega
  subst hie
  rw [List.take_length]
  refine Suc.pure ⟨List.length_filter_le _ _,fun x hx=>?_,?_⟩
  ·have:=h.ok x ((List.mem_filter.1 hx).1)
   unfold vEntry at this
   simp only [Bool.and_eq_true,decide_eq_true_eq] at this
   omega
  ·have hs:=h.sort
   unfold SortE at hs
   have h1:=hs.filter (fun x:Gq3=>x.Entry.Paper == q)
   refine h1.imp_of_mem fun {a b} ha hb hab=>?_
   have h2:=(List.mem_filter.1 ha).2
   have h3:=(List.mem_filter.1 hb).2
   simp only [beq_iff_eq] at h2 h3
   rw [ltE_iff] at hab
   omega
end Go.Sh
set_option linter.unusedVariables false
set_option linter.unusedSimpArgs false
namespace Go.Sh
open Go.L
theorem nextS {t:GTape} (h:Tp t) (n:Int) (hn:n≤1000000000):Suc (Gq28 t n) fun r=>Tp r.2∧0≤r.1∧(1≤n→r.1<n)∧(n<1→r.1=0):=by
 obtain ⟨x,t',h1,h2,h3,h4,h5⟩:=next_s h n hn; exact ⟨_,h1,h2,h3,h4,h5⟩
theorem rangeS {t:GTape} (h:Tp t) (a b:Int) (ha:-1000≤a) (hab:a≤b) (hb:b≤100000000):Suc (Gq38 t a b) fun r=>Tp r.2∧a≤r.1∧r.1≤b:=by
 obtain ⟨x,t',h1,h2,h3,h4⟩:=range_s h a b ha hab hb; exact ⟨_,h1,h2,h3,h4⟩
theorem oneS {t:GTape} (h:Tp t) (n:Int) (hn:n≤1000000000):Suc (Gq30 t n) fun r=>Tp r.2:=by
 obtain ⟨x,t',h1,h2⟩:=one_s h n hn; exact ⟨_,h1,h2⟩
theorem pickS {t:GTape} (h:Tp t) (l:List Int) (hl:1≤l.length) (hl2:l.length≤1000):Suc (Gq36 t l) fun r=>Tp r.2∧r.1 ∈ l:=by
 obtain ⟨x,t',h1,h2,h3⟩:=pick_s h l hl hl2; exact ⟨_,h1,h2,h3⟩
theorem wildS {t:GTape} (h:Tp t):Suc (Gq54 t) fun r=>Tp r.2:=by
 obtain ⟨x,t',h1,h2⟩:=wild_s h; exact ⟨_,h1,h2⟩
theorem cutS (a n:Int) (h1:1≤n) (h2:n≤1000000):Suc (make_Cut a n) fun r=>True:=by
 unfold make_Cut rmd
 refine Suc.ite (fun _=>Suc.pure trivial) fun _=>?_
 rw [if_neg (by omega),Option.bind_some]
 exact Suc.ite (fun _=>Suc.pure trivial) fun _=>Suc.pure trivial
theorem rules_s {F:Nat} {t:GTape} (h:Tp t) (hF:20<F):Suc (Gq46 F t 0) fun r=>Tp r.2∧RulesOk r.1:=by
 unfold Gq46
 refine (nextS h 6 (by omega)).bind fun r1 h1=>?_
 have h13:=h1.2.2.1 (by omega)
 refine loop4 (L:=Gq47 0) (B:=Gq48 0) (fun _=>rfl) (fun n l a k=>0≤n∧(k.length:Int)+n≤6∧Tp (GTape.mk l a)∧RulesOk k) (fun n _ _ _=>n.toNat) _ ?_ F _ _ _ _ ⟨h1.2.1,by simp; omega,h1.1,by simp [RulesOk]⟩ (by omega)
 rintro rec n l a k ⟨q1,q2,q3,q4⟩ ih
 unfold Gq48
 refine Suc.ite (fun hc=>?_) fun hc=>?_
 ·simp only [decide_eq_true_eq] at hc
  refine (rangeS q3 1 3 (by omega) (by omega) (by omega)).bind fun r7 h7=>?_
  refine (rangeS h7.1 1 9 (by omega) (by omega) (by omega)).bind fun r8 h8=>?_
  refine (pickS h8.1 [0,10,25,26,50,100] (by simp) (by simp)).bind fun r9 h9=>?_
  refine (pickS h9.1 [0,2,4,8,16,32,6,63] (by simp) (by simp)).bind fun r10 h10=>?_
  refine Suc.app (by simp; omega) ?_
  rw [i64_of (by omega) (by omega)]
  refine ih _ _ _ _ ⟨by omega,by simp; omega,h10.1,by simp; omega,fun x hx=>?_⟩ (by omega)
  rcases List.mem_append.1 hx with hx | hx
  ·exact q4.2 x hx
  ·have:x=Gq1.mk r7.1 r8.1 r9.1 r10.1:=by simpa using hx
   subst this
   have e9:=h9.2
   have e10:=h10.2
   simp only [List.mem_cons,List.not_mem_nil,or_false] at e9 e10
   exact ⟨h7.2.1,by have:=h7.2.2; show r7.1≤9; omega,h8.2.1,h8.2.2,by show 0≤r9.1; omega,by show r9.1≤100; omega,by show 0≤r10.1; omega,by show r10.1≤63; omega⟩
 ·rw [if_neg (by decide),Option.bind_some,if_neg (by simp)]
  exact Suc.pure ⟨q3,q4⟩
theorem spoilS {t:GTape} (h:Tp t) (a n:Int) (hn:n≤1000000):Suc (Gq50 t a n) fun r=>Tp r.2:=by
 unfold Gq50
 have key:Suc (if decide (n > 0)=true then (Gq30 t n).bind fun r6=>some (r6.1,r6.2.L,r6.2.At) else some (false,t.L,t.At)) fun w=>Tp (GTape.mk w.2.1 w.2.2) :=
  Suc.ite (fun _=>(oneS h n (by omega)).bind fun r hr=>Suc.pure hr) fun _=>Suc.pure h
 refine key.bind fun w hw=>Suc.ite (fun _=>?_) fun _=>Suc.pure hw
 exact (wildS hw).bind fun r hr=>Suc.pure hr
theorem evidence_s {F:Nat} {t:GTape} (h:Tp t) (hF:20<F):Suc (Gq20 F t) fun r=>Tp r.2∧r.1.length≤7:=by
 unfold Gq20
 refine (nextS h 7 (by omega)).bind fun r1 h1=>?_
 have h13:=h1.2.2.1 (by omega)
 refine loop4 (L:=Gq21) (B:=Gq22) (fun _=>rfl) (fun n l a k=>0≤n∧(k.length:Int)+n≤7∧Tp (GTape.mk l a)) (fun n _ _ _=>n.toNat) _ ?_ F _ _ _ _ ⟨h1.2.1,by simp; omega,h1.1⟩ (by omega)
 rintro rec n l a k ⟨q1,q2,q3⟩ ih
 unfold Gq22
 refine Suc.ite (fun hc=>?_) fun hc=>Suc.pure ⟨q3,by show k.length≤7; omega⟩
 simp only [decide_eq_true_eq] at hc
 refine (rangeS q3 0 20 (by omega) (by omega) (by omega)).bind fun r7 h7=>?_
 refine (nextS h7.1 2 (by omega)).bind fun r8 h8=>?_
 refine (rangeS h8.1 1 3 (by omega) (by omega) (by omega)).bind fun r9 h9=>?_
 refine (spoilS h9.1 _ 10 (by omega)).bind fun r10 h10=>?_
 refine (rangeS h10 1 9 (by omega) (by omega) (by omega)).bind fun r11 h11=>?_
 refine (spoilS h11.1 _ 10 (by omega)).bind fun r12 h12=>?_
 refine (rangeS h12 (-1) 12 (by omega) (by omega) (by omega)).bind fun r13 h13=>?_
 refine Suc.app (by simp; omega) ?_
 rw [i64_of (n:=n - 1) (by omega) (by omega)]
 exact ih _ _ _ _ ⟨by omega,by simp; omega,h13.1⟩ (by omega)
def RoomsOk (c0:List GRoom):Prop:=∀ y ∈ c0,roomOk y∧0≤y.Offers∧y.Offers≤63∧(andI .i64 y.Offers 1 ≠ 0→y.Rows * y.Cols=1)
theorem rooms_s {F:Nat} {t:GTape} (h:Tp t) (hF:20<F):Suc (Gq42 F t 0) fun r=>Tp r.2∧r.1.length≤8∧RoomsOk r.1:=by
 unfold Gq42
 refine (nextS h 5 (by omega)).bind fun r1 h1=>?_
 have h13:=h1.2.2.1 (by omega)
 refine loop4 (L:=Gq43 0) (B:=Gq44 0) (fun _=>rfl) (fun n l a k=>0≤n∧(k.length:Int)+n≤5∧Tp (GTape.mk l a)∧RoomsOk k) (fun n _ _ _=>n.toNat) _ ?_ F _ _ _ _ ⟨h1.2.1,by simp; omega,h1.1,by simp [RoomsOk]⟩ (by omega)
 rintro rec n l a k ⟨q1,q2,q3,q4⟩ ih
 unfold Gq44
 refine Suc.ite (fun hc=>?_) fun hc=>?_
 ·simp only [decide_eq_true_eq] at hc
  refine (rangeS q3 1 2 (by omega) (by omega) (by omega)).bind fun r7 h7=>?_
  refine (rangeS h7.1 1 3 (by omega) (by omega) (by omega)).bind fun r8 h8=>?_
  refine (pickS h8.1 [0,2,4,6,8,62] (by simp) (by simp)).bind fun r9 h9=>?_
  refine (oneS h9.1 3 (by omega)).bind fun r10 h10=>?_
  refine Suc.ite (fun _=>?_) fun _=>?_
  ·refine (pickS h10 [1,3,63,9] (by simp) (by simp)).bind fun r12 h12=>?_
   refine Suc.app (by simp; omega) ?_
   rw [i64_of (by omega) (by omega)]
   refine ih _ _ _ _ ⟨by omega,by simp; omega,h12.1,fun x hx=>?_⟩ (by omega)
   rcases List.mem_append.1 hx with hx | hx
   ·exact q4 x hx
   ·have:x=GRoom.mk 1 1 r12.1:=by simpa using hx
    subst this
    have e:=h12.2
    simp only [List.mem_cons,List.not_mem_nil,or_false] at e
    exact ⟨⟨by simp,by simp,by simp,by simp⟩,by show 0≤r12.1; omega,by show r12.1≤63; omega,fun _=>by simp⟩
  ·refine Suc.app (by simp; omega) ?_
   rw [i64_of (by omega) (by omega)]
   refine ih _ _ _ _ ⟨by omega,by simp; omega,h10,fun x hx=>?_⟩ (by omega)
   rcases List.mem_append.1 hx with hx | hx
   ·exact q4 x hx
   ·have:x=GRoom.mk r7.1 r8.1 r9.1:=by simpa using hx
    subst this
    have e:=h9.2
    have e7:=h7.2
    have e8:=h8.2
    simp only [List.mem_cons,List.not_mem_nil,or_false] at e
    refine ⟨⟨e7.1,by show r7.1≤8; omega,e8.1,by show r8.1≤8; omega⟩,by show 0≤r9.1; omega,by show r9.1≤63; omega,fun h=>absurd ?_ h⟩
    show andI .i64 r9.1 1=0
    rcases e with e | e | e | e | e | e <;> rw [e] <;> rfl
 ·rw [if_neg (by decide),Option.bind_some,if_neg (by simp)]
  exact Suc.pure ⟨q3,by show k.length≤8; omega,q4⟩
end Go.Sh
set_option linter.unusedVariables false
set_option linter.unusedSimpArgs false
namespace Go.Sh
open Go.L
theorem tooFew_not {c2:List GNeed} {y:GRoom} {V:List Bool} {S:List Int} (t:TooFew [y] c2 V S) (hy:(c2.length:Int)≤y.Rows * y.Cols) (h:∀ c,c<c2.length→suitB [y] c2 0 c=true):False:=by
 obtain ⟨t1,t2,t3,t4⟩:=t
 have hlen:S.length≤c2.length:=by
  have hm:S ⊆ (List.range c2.length).map Int.ofNat:=fun x hx=>by
   obtain ⟨q1,q2⟩:=t2 x hx
   exact List.mem_map.2 ⟨x.toNat,List.mem_range.2 q2,by simp; omega⟩
  have:=t1.length_le_of_subset hm
  simpa using this
 have hsum:sumV [y] V [y].length=if vis V 0=true then y.Rows * y.Cols else 0:=by
  show (0:Int)+(if vis V 0=true then seatN [y] 0 else 0)=_
  rw [Int.zero_add]; rfl
 rw [hsum] at t3
 cases S with
 | nil=>split at t3 <;> simp at t3 <;> omega
 | cons x S =>
  obtain ⟨q1,q2⟩:=t2 x (by simp)
  rw [if_pos (t4 x (by simp) 0 (h _ q2))] at t3
  omega
theorem awake_s {F:Nat} (hF:2000≤F):q140q F=some true:=by
 unfold q140q
 rw [efold_s hF (by simp)]
 have:foldE [(Gq5.mk (Gq10.mk 0 0 1) 1 (Gq4.mk 4 2 0) 0),(Gq5.mk (Gq10.mk 0 0 0) 1 (Gq4.mk 1 2 0) 0)] (Gq2.mk 5 5) 5=([Gq3.mk (Gq4.mk 1 2 0) false,Gq3.mk (Gq4.mk 4 2 0) false],[],0):=by decide
 rw [this]
 have hrn:RN [(GRoom.mk 1 2 0)] [(GNeed.mk 1 0),(GNeed.mk 4 0)]:=by
  refine ⟨by simp,by simp,?_,?_,?_,?_,?_⟩
  ·simp [roomOk]
  ·simp
  ·intro y hy h
   have:y=GRoom.mk 1 2 0:=by simpa using hy
   subst this
   exact absurd rfl h
  ·simp
  ·intro i x y hx hy
   match i with
   | 0=>simp at hx hy; subst hx; subst hy; decide
   | i+1=>simp at hy
 obtain ⟨r,h1,h2⟩:=place_s hrn (F:=F) (by omega)
 have e0:(if ((0:Int) != 0)=true then some true else if (((2:Nat):Int) != 2)=true then some true else (idx [Gq3.mk (Gq4.mk 1 2 0) false,Gq3.mk (Gq4.mk 4 2 0) false] 0).bind fun x6=>some (!(decide (x6.Entry=(Gq4.mk 1 2 0)))))=some false:=by decide
 simp only [Option.bind_some,List.length_cons,List.length_nil]
 rw [e0,Option.bind_some,if_neg (by simp),h1,Option.bind_some]
 rcases h2 with ⟨_,_,V,t⟩ | ⟨h2,M,p,w,hall,hl,hp⟩
 ·exact (tooFew_not t (by simp) fun c hc=>by
   have hc:c<2:=hc
   match c with
   | 0=>rfl
   | 1=>rfl).elim
 ·have hr:∀ x,x<2→rmo p x=0:=fun x hx=>by
   have h3:=hall x hx
   have h4:(rmo p x).toNat<1:=(w.plc x h3).1
   omega
  have p0:=hp 0 (by decide)
  have p1:=hp 1 (by decide)
  have v0:(placeOf [(GRoom.mk 1 2 0)] [(GNeed.mk 1 0),(GNeed.mk 4 0)] p 0).Variant=0:=by
   simp only [placeOf,hr 0 (by omega)]; show ((0:Int) / 2+0 % 2) % 2=0; decide
  have v1:(placeOf [(GRoom.mk 1 2 0)] [(GNeed.mk 1 0),(GNeed.mk 4 0)] p 1).Variant=1:=by
   have:cntR p 0 1=1:=by rw [cntR_yes (r:=0) (hr 0 (by omega))]; rfl
   simp only [placeOf,hr 1 (by omega),Int.toNat_zero,this]; show ((1:Int) / 2+1 % 2) % 2=1; decide
  rw [h2,hl]
  have i0:idx r.1 0=some _:=idxN (i:=0) p0
  have i1:idx r.1 1=some _:=idxN (i:=1) p1
  simp only [i0,i1,Option.bind_some,v0,v1]
  rfl
theorem apart {c0:List GRoom} {c2:List GNeed} {M:List (List Int)} {p:List Int} (h:RN c0 c2) (w:WF c0 c2 M p) (hall:∀ x,x<c2.length→0≤rmo p x) {i j:Nat} (hji:j<i) (hi:i<c2.length) :
  (if ((placeOf c0 c2 p i).Seat.Room == (placeOf c0 c2 p j).Seat.Room)=true then if ((i64 ((i64 ((max (placeOf c0 c2 p i).Seat.Row (placeOf c0 c2 p j).Seat.Row) - (min (placeOf c0 c2 p i).Seat.Row (placeOf c0 c2 p j).Seat.Row)))+(i64 ((max (placeOf c0 c2 p i).Seat.Col (placeOf c0 c2 p j).Seat.Col) - (min (placeOf c0 c2 p i).Seat.Col (placeOf c0 c2 p j).Seat.Col))))) == 0)=true then some true else if ((i64 ((i64 ((max (placeOf c0 c2 p i).Seat.Row (placeOf c0 c2 p j).Seat.Row) - (min (placeOf c0 c2 p i).Seat.Row (placeOf c0 c2 p j).Seat.Row)))+(i64 ((max (placeOf c0 c2 p i).Seat.Col (placeOf c0 c2 p j).Seat.Col) - (min (placeOf c0 c2 p i).Seat.Col (placeOf c0 c2 p j).Seat.Col))))) == 1)=true then some ((placeOf c0 c2 p i).Variant == (placeOf c0 c2 p j).Variant) else some false else some false)=some false:=by
 have a1:(placeOf c0 c2 p i).Seat.Room=rmo p i:=rfl
 have a2:(placeOf c0 c2 p j).Seat.Room=rmo p j:=rfl
 rw [a1,a2]
 by_cases hrr:rmo p i=rmo p j
 rotate_left
 ·rw [if_neg (by simpa using hrr)]
 rw [if_pos (by simpa using hrr)]
 have hi0:=hall i hi
 obtain ⟨r,hr⟩:=Int.eq_ofNat_of_zero_le hi0
 have hr2:rmo p j=(r:Int):=by omega
 have hrl:=(w.plc i hi0).1
 rw [hr,Int.toNat_natCast] at hrl
 have hy:c0[r]?=some c0[r]:=by simp
 obtain ⟨q1,q2,q3,q4⟩:=h.hg c0[r] (List.getElem_mem _)
 have hqi:=cntR_lt w hy hr
 have hqj:=cntR_lt w hy hr2
 have hlt:cntR p r j<cntR p r i:=by
  have:=cntR_mono (p:=p) (r:=r) (i:=j+1) (j:=i) (by omega)
  rw [cntR_yes hr2] at this; omega
 obtain ⟨C,hC⟩:∃ C,C=c0[r].Cols:=⟨_,rfl⟩
 obtain ⟨R,hR⟩:∃ R,R=c0[r].Rows:=⟨_,rfl⟩
 obtain ⟨a,ha⟩:∃ a:Int,a=cntR p r i:=⟨_,rfl⟩
 obtain ⟨b,hb⟩:∃ b:Int,b=cntR p r j:=⟨_,rfl⟩
 have s1:(placeOf c0 c2 p i).Seat.Row=a / C:=by simp only [placeOf,hr,Int.toNat_natCast,hy]; rw [ha,hC]
 have s2:(placeOf c0 c2 p i).Seat.Col=a % C:=by simp only [placeOf,hr,Int.toNat_natCast,hy]; rw [ha,hC]
 have s3:(placeOf c0 c2 p i).Variant=(a / C+a % C) % 2:=by simp only [placeOf,hr,Int.toNat_natCast,hy]; rw [ha,hC]
 have s4:(placeOf c0 c2 p j).Seat.Row=b / C:=by simp only [placeOf,hr2,Int.toNat_natCast,hy]; rw [hb,hC]
 have s5:(placeOf c0 c2 p j).Seat.Col=b % C:=by simp only [placeOf,hr2,Int.toNat_natCast,hy]; rw [hb,hC]
 have s6:(placeOf c0 c2 p j).Variant=(b / C+b % C) % 2:=by simp only [placeOf,hr2,Int.toNat_natCast,hy]; rw [hb,hC]
 rw [s1,s2,s3,s4,s5,s6]
 rw [← hC,← hR,← ha] at hqi
 rw [← hC,← hR,← hb] at hqj
 rw [← hC] at q3 q4
 rw [← hR] at q1 q2
 have b1:0≤a / C:=Int.ediv_nonneg (by omega) (by omega)
 have b2:a / C<R:=ediv_lt' q3 hqi
 have b3:0≤a % C:=Int.emod_nonneg _ (by omega)
 have b4:a % C<C:=Int.emod_lt_of_pos _ (by omega)
 have d1:0≤b / C:=Int.ediv_nonneg (by omega) (by omega)
 have d2:b / C<R:=ediv_lt' q3 hqj
 have d3:0≤b % C:=Int.emod_nonneg _ (by omega)
 have d4:b % C<C:=Int.emod_lt_of_pos _ (by omega)
 have ea:a=C * (a / C)+a % C:=(Int.mul_ediv_add_emod a C).symm
 have eb:b=C * (b / C)+b % C:=(Int.mul_ediv_add_emod b C).symm
 have hne:a ≠ b:=by omega
 have hne2:¬ (a / C=b / C∧a % C=b % C):=fun ⟨h1,h2⟩=>hne (by rw [ea,eb,h1,h2])
 clear ea eb hne hlt ha hb hqi hqj s1 s2 s3 s4 s5 s6
 generalize a / C=u at *
 generalize a % C=v at *
 generalize b / C=x at *
 generalize b % C=y at *
 rw [i64_of (n:=max u x - min u x) (by omega) (by omega),i64_of (n:=max v y - min v y) (by omega) (by omega),i64_of (by omega) (by omega)]
 rw [if_neg (by simp; omega)]
 split
 ·rename_i hh
  have hh:max u x - min u x+(max v y - min v y)=1:=by simpa using hh
  have:(u+v) % 2 ≠ (x+y) % 2:=by omega
  simpa using this
 ·rfl
theorem seats_law {F:Nat} (hF:2000≤F) {c0:List GRoom} {c2:List GNeed} (h:RN c0 c2) {t:GTape} {r53:List Gq8 × List Int × Int} (hp:Placed c0 c2 r53.1):Suc (q62q F (c0,t) c2 r53 F 0) (·=true):=by
 obtain ⟨M,p,w,hall,hl,hp⟩:=hp
 have hN:=h.hN
 refine loop1 (L:=q62q F (c0,t) c2 r53) (B:=q78q F (c0,t) c2 r53) (fun _=>rfl) (fun a=>∃ i:Nat,a=(i:Int)) (fun a=>c2.length - a.toNat) _ ?_ F 0 ⟨0,rfl⟩ (by omega)
 rintro rec a ⟨i,rfl⟩ ih
 unfold q78q
 refine Suc.ite (fun hlt=>?_) fun _=>by rw [awake_s hF]; exact Suc.pure rfl
 have hlt:i<c2.length:=by rw [hl] at hlt; simpa using hlt
 have hz:c2[i]?=some c2[i]:=by simp
 obtain ⟨h1,h2⟩:=w.plc i (hall i hlt)
 have hs:=(w.mem _ _ h2).2.2.1
 rw [Int.toNat_natCast] at hs
 have hi0:=hall i hlt
 have hrl:idx c0 (rmo p i)=some c0[(rmo p i).toNat]:=by
  have:=idxN (a:=c0) (i:=(rmo p i).toNat) (List.getElem?_eq_getElem h1)
  rwa [Int.toNat_of_nonneg hi0] at this
 refine Suc.at (hp i hlt) ?_
 have e1:(placeOf c0 c2 p i).Candidate=c2[i].Candidate:=by simp only [placeOf,hz]
 have e2:(placeOf c0 c2 p i).Seat.Room=rmo p i:=rfl
 have hw:((idx c2 (i:Int)).bind fun x69=>if ((placeOf c0 c2 p i).Candidate != x69.Candidate)=true then some true else if (decide ((placeOf c0 c2 p i).Seat.Room<0))=true then some true else if (decide ((placeOf c0 c2 p i).Seat.Room ≥ (c0.length:Int)))=true then some true else (idx c0 (placeOf c0 c2 p i).Seat.Room).bind fun x73=>(idx c2 (i:Int)).bind fun x74=>(q30q x73 x74).bind fun r75=>some (!r75))=some false:=by
  rw [idxN hz,Option.bind_some,e1,e2,if_neg (by simp),if_neg (by simp only [decide_eq_true_eq]; omega),if_neg (by simp only [decide_eq_true_eq]; omega),hrl]
  simp only [Option.bind_some,idxN hz]
  rw [suit_at (List.getElem?_eq_getElem h1) hz,hs]; rfl
 rw [hw,Option.bind_some,if_neg (by simp)]
 refine loop1 (L:=q119q rec r53 (i:Int) (placeOf c0 c2 p i)) (B:=q79q rec r53 (i:Int) (placeOf c0 c2 p i)) (fun _=>rfl) (fun a=>∃ j:Nat,a=(j:Int)) (fun a=>i - a.toNat) _ ?_ F 0 ⟨0,rfl⟩ (by omega)
 rintro rec2 a ⟨j,rfl⟩ ih2
 unfold q79q
 refine Suc.ite (fun hlt2=>?_) fun _=>?_
 ·have hlt2:j<i:=by simpa using hlt2
  have hpj:=hp j (by omega)
  refine Suc.at hpj ?_
  have hap:=apart h w hall hlt2 hlt
  simp only [idxN hpj,Option.bind_some]
  rw [hap,Option.bind_some,if_neg (by simp),nxtI (by omega)]
  exact ih2 _ ⟨j+1,rfl⟩ (by simp; omega)
 ·rw [nxtI (by omega)]
  exact ih _ ⟨i+1,rfl⟩ (by simp; omega)
end Go.Sh
set_option linter.unusedVariables false
set_option linter.unusedSimpArgs false
namespace Go.Sh
open Go.L
def ndOf (F:Nat) (k:List Gq1) (ev:List Gq6) (u c:Int):Int:=match q20q F k ev c u with | some r=>r.1.Needs | .none=>0
def needL (F:Nat) (k:List Gq1) (ev:List Gq6) (u:Int) (P:List Gq3):List GNeed:=P.map fun x=>GNeed.mk x.Entry.Candidate (ndOf F k ev u x.Entry.Candidate)
theorem grant_e {F:Nat} (hF:1100<F) {k:List Gq1} (hk:RulesOk k) {ev V:List Gq6} (hl:ev.length<1000) (hV:V.length<1000) (hm:∀ x,x ∈ V ↔ x ∈ ev) (c u:Int):∃ e,q20q F k V c u=some (e,0)∧e.Needs=ndOf F k ev u c:=by
 have hc:q20q F k V c u=q20q F k ev c u:=grant_congr fun x=>by
  rw [applies_s (by omega) (by omega),applies_s (by omega) (by omega)]
  congr 1
  apply bEq
  simp only [List.any_eq_true,hm]
 obtain ⟨r,h1,h2,h3⟩:=grant_s (c:=c) (t:=u) hk hl hF
 refine ⟨r.1,?_,?_⟩
 ·rw [hc,h1]
  show some (r.1,r.2)=_
  rw [h2]
 ·unfold ndOf; rw [h1]
theorem nd_b {F:Nat} (hF:1100<F) {k:List Gq1} (hk:RulesOk k) {ev:List Gq6} (hl:ev.length<1000) (c u:Int):0≤ndOf F k ev u c∧ndOf F k ev u c≤63:=by
 obtain ⟨r,h1,h2,h3⟩:=grant_s (c:=c) (t:=u) hk hl hF
 unfold ndOf; rw [h1]; exact h3
section
variable {F:Nat} {d:Gq2} {t2 t4 t6:GTape} {k:List Gq1} {rooms:List GRoom} {u:Int} {l:List Gq5} {ev:List Gq6}
theorem j2_s (hF:2000≤F) (hd:dOk d=true) (hk:RulesOk k) (hl:l.length≤100) (hev:ev.length≤100) {P:List Gq3} (hP:q148q F (foldE l d 1000000).1 0=some P) (hPl:P.length≤100)
  {rec1:(List Gq5)→(List Gq6)→(List GNeed)→Int→(List Int)→Int→Option Bool} {E:List Gq5} {V:List Gq6} (hE:∀ x,x ∈ E ↔ x ∈ l) (hEl:E.length≤200) (hV:∀ x,x ∈ V ↔ x ∈ ev) (hVl:V.length≤200)
  {l10:List GNeed} {n11:Int} (h11:(n11=0∧l10=[]) ∨ (n11=1∧l10=needL F k ev u P)) {l17:List Int} {n18:Int} (hrec:Suc (rec1 E V (needL F k ev u P) (i64 (n11+1)) l17 n18) (·=true)) :
  Suc (q61q rec1 F (d,t2) (k,t4) u l10 n11 E V l17 n18) (·=true):=by
 have hfe:foldE E d 1000000=foldE l d 1000000:=by unfold foldE; rw [canonEv_congr hE]
 have hcode:(foldE l d 1000000).2.2=0:=by rw [foldE_small (by omega) hd]; exact foldS_code
 unfold q61q
 rw [efold_s hF (by omega),Option.bind_some,hfe,hP,Option.bind_some]
 have hnl:(needL F k ev u P).length=P.length:=by simp [needL]
 refine loop2 (L:=q115q rec1 F (k,t4) u l10 n11 E V l17 n18 (foldE l d 1000000) P) (B:=q74q rec1 F (k,t4) u l10 n11 E V l17 n18 (foldE l d 1000000) P) (fun _=>rfl) (fun a l22=>∃ i:Nat,a=(i:Int)∧i≤P.length∧l22=needL F k ev u (P.take i)) (fun a _=>P.length - a.toNat) _ ?_ F 0 [] ⟨0,rfl,by omega,by simp [needL]⟩ (by omega)
 rintro rec a l22 ⟨i,rfl,hi,rfl⟩ ih
 unfold q74q
 refine Suc.ite (fun hlt=>?_) fun hlt=>?_
 ·have hlt:i<P.length:=by simpa using hlt
  have hx:P[i]?=some P[i]:=by simp
  refine Suc.at hx ?_
  obtain ⟨e,g1,g2⟩:=grant_e (k:=k) (F:=F) (by omega) hk (by omega:ev.length<1000) (by omega:V.length<1000) hV P[i].Entry.Candidate u
  show Suc ((q20q F k V P[i].Entry.Candidate u).bind _) _
  rw [g1,Option.bind_some,if_neg (by simp)]
  refine Suc.at hx ?_
  refine Suc.app (by simp [needL]; omega) ?_
  rw [nxtI (by omega)]
  refine ih _ _ ⟨i+1,rfl,by omega,?_⟩ (by simp; omega)
  rw [g2]
  have htk:P.take (i+1)=P.take i++[P[i]]:=by simp
  unfold needL
  rw [htk,List.map_append]; rfl
 ·have hie:i=P.length:=by
   have:¬ ((i:Int)<(P.length:Int)):=by simpa using hlt
   omega
  subst hie
  rw [List.take_length,hcode]
  rw [if_neg (by
   rcases h11 with ⟨rfl,rfl⟩ | ⟨rfl,rfl⟩ <;> simp)]
  rcases h11 with ⟨rfl,rfl⟩ | ⟨rfl,rfl⟩
  ·obtain ⟨G,rfl⟩:∃ G,F=G+1:=⟨F - 1,by omega⟩
   exact hrec
  ·refine loop1 (L:=q116q rec1 (needL F k ev u P) 1 E V l17 n18 (needL F k ev u P)) (B:=q75q rec1 (needL F k ev u P) 1 E V l17 n18 (needL F k ev u P)) (fun _=>rfl) (fun a=>∃ i:Nat,a=(i:Int)) (fun a=>(needL F k ev u P).length - a.toNat) _ ?_ F 0 ⟨0,rfl⟩ (by omega)
   clear ih
   rintro rec a ⟨i,rfl⟩ ih
   unfold q75q
   refine Suc.ite (fun hlt=>?_) fun hlt=>hrec
   have hlt:i<(needL F k ev u P).length:=by simpa using hlt
   refine Suc.at (List.getElem?_eq_getElem hlt) (Suc.at (List.getElem?_eq_getElem hlt) ?_)
   rw [if_neg (by simp),nxtI (by omega)]
   exact ih _ ⟨i+1,rfl⟩ (by simp only [Int.toNat_natCast]; omega)
def Taken {α:Type} (l:List α) (o:List Int) (i:Nat) (r:List α):Prop:=r.length=i∧(∀ x ∈ r,x ∈ l)∧∀ j,j<i→∀ q,o[j]?=some q→∀ x,l[q.toNat]?=some x→x ∈ r
theorem Taken.next {α:Type} {l:List α} {o:List Int} {i:Nat} {r:List α} (h:Taken l o i r) {q:Int} (hq:o[i]?=some q) {x:α} (hx:l[q.toNat]?=some x):Taken l o (i+1) (r++[x]):=by
 obtain ⟨h1,h2,h3⟩:=h
 refine ⟨by simp [h1],fun y hy=>?_,fun j hj q' hq' y hy=>?_⟩
 ·rcases List.mem_append.1 hy with hy | hy
  ·exact h2 y hy
  ·have:y=x:=by simpa using hy
   subst this
   exact List.mem_of_getElem? hx
 ·by_cases hji:j=i
  ·subst hji
   rw [hq] at hq'; cases hq'
   rw [hx] at hy; cases hy
   simp
  ·exact List.mem_append.2 (.inl (h3 j (by omega) q' hq' y hy))
theorem Taken.all {α:Type} {l:List α} {o:List Int} {r:List α} (h:Taken l o o.length r) (ho:∀ x,x ∈ o ↔ 0≤x∧x<(l.length:Int)):∀ x,x ∈ r ↔ x ∈ l:=fun x=>by
 refine ⟨h.2.1 x,fun hx=>?_⟩
 obtain ⟨i,hi⟩:=List.getElem?_of_mem hx
 have hil:=(List.getElem?_eq_some_iff.1 hi).1
 have hio:(i:Int) ∈ o:=(ho _).2 ⟨by omega,by omega⟩
 obtain ⟨j,hj⟩:=List.getElem?_of_mem hio
 have hjl:=(List.getElem?_eq_some_iff.1 hj).1
 exact h.2.2 j hjl _ hj x (by simpa using hi)
theorem law_TopSeated (t:List Int) (time:Int):∃ F,q137q F t time=some true:=by
 refine ⟨2000,?_⟩
 obtain ⟨t1,a1,a2⟩:=new_s t
 obtain ⟨d,t2,b1,b2,b3⟩:=deadlines_s a2 0 (by omega)
 obtain ⟨l,t3,c1,c2,c3⟩:=entryEvents_s (F:=2000) b2 10 0 (by omega) (by omega) (by omega)
 obtain ⟨r4,d1,d2,d3⟩:=rules_s (F:=2000) c2 (by omega)
 obtain ⟨k,t4⟩:=r4
 obtain ⟨r5,e1,e2,e3⟩:=evidence_s (F:=2000) d2 (by omega)
 obtain ⟨ev,t5⟩:=r5
 obtain ⟨r6,f1,f2,f3,f4⟩:=rooms_s (F:=2000) e2 (by omega)
 obtain ⟨rooms,t6⟩:=r6
 obtain ⟨u,g1,_⟩:=cutS time 30 (by omega) (by omega)
 simp only at d3 e3 f3 f4
 have hd:=(b3 rfl).1
 have hvl:VL (foldE l d 1000000).1:=foldE_vl
 have hfl:=foldE_len (l:=l) (d:=d) (u:=1000000)
 obtain ⟨P,p1,p2,p3,p4⟩:=paper_s hvl 0 (F:=2000) (by omega)
 have hnl:(needL 2000 k ev u P).length=P.length:=by simp [needL]
 have hrn:RN rooms (needL 2000 k ev u P):=by
  refine ⟨f3,by omega,fun y hy=>(f4 y hy).1,fun y hy=>⟨(f4 y hy).2.1,(f4 y hy).2.2.1⟩,fun y hy=>(f4 y hy).2.2.2,fun z hz=>?_,fun i x y hx hy=>?_⟩
  ·obtain ⟨q,hq,rfl⟩:=List.mem_map.1 hz
   obtain ⟨q1,q2⟩:=p3 q hq
   have:=nd_b (F:=2000) (k:=k) (ev:=ev) (by omega) d3 (by omega) q.Entry.Candidate u
   exact ⟨q1,q2,this⟩
  ·simp only [needL,List.getElem?_map,Option.map_eq_some_iff] at hx hy
   obtain ⟨x',hx',rfl⟩:=hx
   obtain ⟨y',hy',rfl⟩:=hy
   obtain ⟨hxl,hx''⟩:=List.getElem?_eq_some_iff.1 hx'
   obtain ⟨hyl,hy''⟩:=List.getElem?_eq_some_iff.1 hy'
   have:=List.pairwise_iff_getElem.1 p4 i (i+1) hxl hyl (by omega)
   rw [hx'',hy''] at this
   exact this
 have key:Suc (q137q 2000 t time) (·=true):=by
  unfold q137q
  rw [a1]; simp only [Option.bind_some]
  rw [b1]; simp only [Option.bind_some]
  rw [show (10:Int)=((10:Nat):Int) from rfl,c1]; simp only [Option.bind_some]
  rw [d1]; simp only [Option.bind_some]
  rw [e1]; simp only [Option.bind_some]
  rw [f1]; simp only [Option.bind_some]
  rw [g1]; simp only [Option.bind_some]
  -- the first time: as they came
  show Suc (q16q 2000 (d,t2) (k,t4) (rooms,t6) u (q13q 2000 (d,t2) (k,t4) (rooms,t6) u 1999) l ev [] 0 t6.L t6.At) _
  unfold q16q
  rw [if_pos (by decide),if_neg (by decide)]
  refine j2_s (by omega) hd d3 (by omega) (by omega) p1 (by omega) (fun _=>Iff.rfl) (by omega) (fun _=>Iff.rfl) (by omega) (.inl ⟨rfl,rfl⟩) ?_
  -- the second time: mixed
  show Suc (q16q 2000 (d,t2) (k,t4) (rooms,t6) u (q13q 2000 (d,t2) (k,t4) (rooms,t6) u 1998) l ev (needL 2000 k ev u P) (i64 (0+1)) t6.L t6.At) _
  rw [show i64 (0+1)=1 from by rw [i64_of (by omega) (by omega)]; rfl]
  unfold q16q
  rw [if_pos (by decide),if_pos (by decide)]
  obtain ⟨o1,t7,m1,m2,m3,m4⟩:=mixed_s (F:=2000) (t:=GTape.mk t6.L t6.At) f2 (m:=l.length) (by omega) (by omega) (by omega)
  obtain ⟨o2,t8,n1,n2,n3,n4⟩:=mixed_s (F:=2000) m2 (m:=ev.length) (by omega) (by omega) (by omega)
  rw [m1,Option.bind_some]
  simp only
  rw [n1,Option.bind_some]
  refine loop2 (L:=q117q (q13q 2000 (d,t2) (k,t4) (rooms,t6) u 1998) 2000 (d,t2) (k,t4) u l ev (needL 2000 k ev u P) 1 (o1,t7) (o2,t8)) (B:=q76q (q13q 2000 (d,t2) (k,t4) (rooms,t6) u 1998) 2000 (d,t2) (k,t4) u l ev (needL 2000 k ev u P) 1 (o1,t7) (o2,t8)) (fun _=>rfl) (fun a r=>∃ i:Nat,a=(i:Int)∧i≤o1.length∧Taken l o1 i r) (fun a _=>o1.length - a.toNat) _ ?_ 2000 0 [] ⟨0,rfl,by omega,by simp,by simp,fun j hj=>by omega⟩ (by omega)
  rintro rec a E ⟨i,rfl,hi,hE⟩ ih
  unfold q76q
  refine Suc.ite (fun hlt=>?_) fun hlt=>?_
  ·have hlt:i<o1.length:=by simpa using hlt
   obtain ⟨q1,q2⟩:=(m4 o1[i]).1 (List.getElem_mem _)
   have hq:l[o1[i].toNat]?=some l[o1[i].toNat]:=List.getElem?_eq_getElem (by omega)
   have hix:idx l o1[i]=some l[o1[i].toNat]:=by
    have:=idxN hq
    rwa [Int.toNat_of_nonneg q1] at this
   have hEl:=hE.1
   refine Suc.at (List.getElem?_eq_getElem hlt) ?_
   rw [hix,Option.bind_some]
   refine Suc.app (by simp; omega) ?_
   rw [nxtI (by omega)]
   exact ih _ _ ⟨i+1,rfl,by omega,hE.next (List.getElem?_eq_getElem hlt) hq⟩ (by simp; omega)
  have hie:i=o1.length:=by
   have:¬ ((i:Int)<(o1.length:Int)):=by simpa using hlt
   omega
  subst hie
  clear ih
  refine loop2 (L:=q118q (q13q 2000 (d,t2) (k,t4) (rooms,t6) u 1998) 2000 (d,t2) (k,t4) u ev (needL 2000 k ev u P) 1 (o2,t8) E) (B:=q77q (q13q 2000 (d,t2) (k,t4) (rooms,t6) u 1998) 2000 (d,t2) (k,t4) u ev (needL 2000 k ev u P) 1 (o2,t8) E) (fun _=>rfl) (fun a r=>∃ i:Nat,a=(i:Int)∧i≤o2.length∧Taken ev o2 i r) (fun a _=>o2.length - a.toNat) _ ?_ 2000 0 [] ⟨0,rfl,by omega,by simp,by simp,fun j hj=>by omega⟩ (by omega)
  rintro rec a V ⟨i,rfl,hi,hV⟩ ih
  unfold q77q
  refine Suc.ite (fun hlt=>?_) fun hlt=>?_
  ·have hlt:i<o2.length:=by simpa using hlt
   obtain ⟨q1,q2⟩:=(n4 o2[i]).1 (List.getElem_mem _)
   have hq:ev[o2[i].toNat]?=some ev[o2[i].toNat]:=List.getElem?_eq_getElem (by omega)
   have hix:idx ev o2[i]=some ev[o2[i].toNat]:=by
    have:=idxN hq
    rwa [Int.toNat_of_nonneg q1] at this
   have hVl:=hV.1
   refine Suc.at (List.getElem?_eq_getElem hlt) ?_
   rw [hix,Option.bind_some]
   refine Suc.app (by simp; omega) ?_
   rw [nxtI (by omega)]
   exact ih _ _ ⟨i+1,rfl,by omega,hV.next (List.getElem?_eq_getElem hlt) hq⟩ (by simp; omega)
  have hie:i=o2.length:=by
   have:¬ ((i:Int)<(o2.length:Int)):=by simpa using hlt
   omega
  subst hie
  clear ih
  have hEl:=hE.1
  have hVl:=hV.1
  refine j2_s (by omega) hd d3 (by omega) (by omega) p1 (by omega) (hE.all m4) (by omega) (hV.all n4) (by omega) (.inr ⟨rfl,rfl⟩) ?_
  -- the seats
  show Suc (q16q 2000 (d,t2) (k,t4) (rooms,t6) u (q13q 2000 (d,t2) (k,t4) (rooms,t6) u 1997) E V (needL 2000 k ev u P) (i64 (1+1)) t8.L t8.At) _
  rw [show i64 (1+1)=2 from by rw [i64_of (by omega) (by omega)]; rfl]
  unfold q16q
  rw [if_neg (by decide)]
  refine (place_s hrn (F:=2000) (by omega)).bind fun r hr=>?_
  rcases hr with ⟨h1,h2,W,h3⟩ | ⟨h1,h2⟩
  ·rw [if_pos (by rw [h1]; rfl)]
   have hlen:(r.2.1.length:Int) > 0:=by
    have:=h3.2.2.1
    have:=sumV_b hrn.hg W rooms.length
    omega
   rw [short_s hrn h2 h3 (by omega),Option.bind_some,if_pos rfl,if_pos (by simpa using hlen),awake_s (by omega)]
   exact Suc.pure rfl
  ·rw [if_neg (by rw [h1]; decide)]
   have hpl:r.1.length=(needL 2000 k ev u P).length:=by obtain ⟨_,_,_,_,q,_⟩:=h2; exact q
   rw [if_neg (by rw [h1,hpl]; simp)]
   exact seats_law (by omega) hrn h2
 obtain ⟨b,h1,rfl⟩:=key
 exact h1
end
end Go.Sh
