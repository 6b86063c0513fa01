import Derived.Test.YtmollikhdbaikaaGreatZSh
set_option linter.unusedVariables false
set_option linter.unusedSimpArgs false
namespace Go.Sh
open Go.L

theorem i64_of {n:Int} (h1:-9223372036854775808≤n) (h2:n≤9223372036854775807):i64 n=n:=by
 show IntKind.i64.wrap n=n
 rw [IntKind.wrap_i64]; omega
theorem idx_nat {α:Type} (l:List α) (i:Nat):idx l (i:Int)=l[i]?:=by
 unfold idx; simp
theorem idx_some {α:Type} {l:List α} {i:Int} {x:α}:idx l i=some x ↔ 0≤i∧l[i.toNat]?=some x:=by
 unfold idx; split
 ·simp_all
 ·constructor
  ·intro h; cases h
  ·intro h; omega
theorem idx_lt {α:Type} {l:List α} {i:Nat} (h:i<l.length):idx l (i:Int)=some l[i]:=by
 rw [idx_nat]; simp [h]
theorem idx_at {α:Type} (p:List α) (x:α) (s:List α):idx (p++x :: s) (p.length:Int)=some x:=by
 rw [idx_nat]; simp
theorem app_of {α:Type} {xs ys:List α} (h:xs.length+ys.length≤549755813888):app xs ys=some (xs++ys):=by unfold app; rw [if_pos h]
theorem slc_take {α:Type} {xs:List α} {n:Nat} (h:n≤xs.length):slc xs 0 n=some (xs.take n):=by
 unfold slc; rw [if_pos ⟨by omega,by omega,by omega⟩]; simp
theorem slc_drop {α:Type} {xs:List α} {n:Nat} (h:n≤xs.length):slc xs n (xs.length:Int)=some (xs.drop n):=by
 unfold slc; rw [if_pos ⟨by omega,by omega,by omega⟩]; simp
theorem mkl_of {α:Type} {z:α} {n:Nat} (h:n≤1000000):mkl z (n:Int)=some (List.replicate n z):=by
 unfold mkl; rw [if_pos ⟨by omega,by omega⟩]; simp
theorem dlt {α:Type} (p:List α) (x:α) (s:List α):decide ((p.length:Int)<((p++x :: s).length:Int))=true:=by simp; omega
theorem dge {α:Type} (p:List α):decide ((p.length:Int)<((p++[]).length:Int))=false:=by simp
theorem nxt {α:Type} (p:List α) (x:α) (h:p.length<1000000000):i64 ((p.length:Int)+1)=((p++[x]).length:Int):=by
 rw [i64_of (by omega) (by omega)]; simp
theorem snoc {α:Type} (p:List α) (x:α) (s:List α):p++x :: s=(p++[x])++s:=by simp

theorem loop1 {α R:Type} {L:Nat→α→Option R} {B:(α→Option R)→α→Option R} (hL:∀ n,L (n+1)=B (L n)) (I:α→Prop) (μ:α→Nat) (Post:R→Prop)
  (step:∀ rec a,I a→(∀ a',I a'→μ a'<μ a→∃ r,rec a'=some r∧Post r)→∃ r,B rec a=some r∧Post r):∀ n a,I a→μ a<n→∃ r,L n a=some r∧Post r:=by
 intro n
 induction n with
 | zero=>intro a _ h; omega
 | succ n ih=>intro a hI h; rw [hL]; exact step _ a hI fun a' h1 h2=>ih a' h1 (by omega)
theorem loop2 {α β R:Type} {L:Nat→α→β→Option R} {B:(α→β→Option R)→α→β→Option R} (hL:∀ n,L (n+1)=B (L n)) (I:α→β→Prop) (μ:α→β→Nat) (Post:R→Prop)
  (step:∀ rec a b,I a b→(∀ a' b',I a' b'→μ a' b'<μ a b→∃ r,rec a' b'=some r∧Post r)→∃ r,B rec a b=some r∧Post r):∀ n a b,I a b→μ a b<n→∃ r,L n a b=some r∧Post r:=by
 intro n
 induction n with
 | zero=>intro a b _ h; omega
 | succ n ih=>intro a b hI h; rw [hL]; exact step _ a b hI fun a' b' h1 h2=>ih a' b' h1 (by omega)
theorem loop4 {α β γ δ R:Type} {L:Nat→α→β→γ→δ→Option R} {B:(α→β→γ→δ→Option R)→α→β→γ→δ→Option R} (hL:∀ n,L (n+1)=B (L n)) (I:α→β→γ→δ→Prop) (μ:α→β→γ→δ→Nat) (Post:R→Prop)
  (step:∀ rec a b c d,I a b c d→(∀ a' b' c' d',I a' b' c' d'→μ a' b' c' d'<μ a b c d→∃ r,rec a' b' c' d'=some r∧Post r)→∃ r,B rec a b c d=some r∧Post r):∀ n a b c d,I a b c d→μ a b c d<n→∃ r,L n a b c d=some r∧Post r:=by
 intro n
 induction n with
 | zero=>intro a b c d _ h; omega
 | succ n ih=>intro a b c d hI h; rw [hL]; exact step _ a b c d hI fun a' b' c' d' h1 h2=>ih a' b' c' d' h1 (by omega)
theorem loop5 {α β γ δ ε R:Type} {L:Nat→α→β→γ→δ→ε→Option R} {B:(α→β→γ→δ→ε→Option R)→α→β→γ→δ→ε→Option R} (hL:∀ n,L (n+1)=B (L n)) (I:α→β→γ→δ→ε→Prop) (μ:α→β→γ→δ→ε→Nat) (Post:R→Prop)
  (step:∀ rec a b c d e,I a b c d e→(∀ a' b' c' d' e',I a' b' c' d' e'→μ a' b' c' d' e'<μ a b c d e→∃ r,rec a' b' c' d' e'=some r∧Post r)→∃ r,B rec a b c d e=some r∧Post r):∀ n a b c d e,I a b c d e→μ a b c d e<n→∃ r,L n a b c d e=some r∧Post r:=by
 intro n
 induction n with
 | zero=>intro a b c d e _ h; omega
 | succ n ih=>intro a b c d e hI h; rw [hL]; exact step _ a b c d e hI fun a' b' c' d' e' h1 h2=>ih a' b' c' d' e' h1 (by omega)

def cmpS (a b:Int):Int:=if a<b then -1 else if b<a then 1 else 0
theorem compare_s (a b:Int):cmp_Compare_int a b=some (cmpS a b):=by
 simp only [cmp_Compare_int,cmp_isNaN_int,cmpS,Option.bind_some,bne_self_eq_false,Bool.false_eq_true,if_false,decide_eq_true_eq,gt_iff_lt]
 repeat' split
 all_goals first | rfl | omega
theorem order_s (a b:Int):q91q a b=some (cmpS a b):=by
 simp only [q91q,cmpS,decide_eq_true_eq,gt_iff_lt]
 repeat' split
 all_goals first | rfl | omega
def orS:List Int→Int
 | []=>0
 | x :: r=>if x=0 then orS r else x
theorem or_loop (s:List Int):∀ (p:List Int) (n:Nat),(p++s).length<1000000→s.length<n→cmp_Or_int_L1 (p++s) n (p.length:Int)=some (orS s):=by
 induction s with
 | nil=>intro p n hb hn; cases n with
  | zero=>omega
  | succ n=>simp only [cmp_Or_int_L1,cmp_Or_int_L1_B,dge,Bool.false_eq_true,if_false,orS]
 | cons x s ih=>intro p n hb hn; cases n with
  | zero=>omega
  | succ n =>
   simp only [cmp_Or_int_L1,cmp_Or_int_L1_B,dlt,idx_at,if_true,Option.bind_some,orS,bne_iff_ne,ne_eq]
   by_cases h:x=0
   ·simp only [h,not_true_eq_false,if_false,if_true]
    have hl:p.length<1000000000:=by simp at hb; omega
    rw [nxt p 0 hl,snoc]
    exact ih (p++[0]) n (by simpa using hb) (by simpa using hn)
   ·simp [h]
theorem or_s {F:Nat} {xs:List Int} (hb:xs.length<1000000) (hF:xs.length<F):cmp_Or_int F xs=some (orS xs):=by
 have:=or_loop xs [] F (by simpa using hb) hF
 simpa [cmp_Or_int] using this
def cmpId (x y:Gq4):Int:=if cmpS x.Source y.Source ≠ 0 then cmpS x.Source y.Source else cmpS x.Seq y.Seq
def cmpSt (x y:Gq4):Int:=if cmpS x.Time y.Time ≠ 0 then cmpS x.Time y.Time else cmpId x y
theorem compareId_s {F:Nat} (hF:10≤F) (x y:Gq4):q26q F x y=some (cmpId x y):=by
 simp only [q26q,compare_s,Option.bind_some]
 rw [or_s (by simp) (by simp; omega)]
 simp only [Option.bind_some,orS,cmpId]
 repeat' split
 all_goals simp_all
theorem stampCompare_s {F:Nat} (hF:10≤F) (x y:Gq4):q147q F x y=some (cmpSt x y):=by
 simp only [q147q,compare_s,Option.bind_some]
 rw [or_s (by simp) (by simp; omega)]
 simp only [Option.bind_some,orS,cmpSt,cmpId]
 repeat' split
 all_goals simp_all
theorem refCompare_s (x y:Gq4):q144q x y=some (cmpSt x y):=by
 simp only [q144q,order_s,Option.bind_some,cmpSt,cmpId,beq_iff_eq]
 repeat' split
 all_goals simp_all
def Gq4.good (x:Gq4):Bool:=(decide (x.Time ≥ 0)) && ((decide (x.Time≤1000000)) && ((decide (x.Source ≥ 0)) && ((decide (x.Source≤99)) && ((decide (x.Seq ≥ 0)) && (decide (x.Seq≤9999))))))
theorem valid_s (x:Gq4):q184q x=some x.good:=rfl
theorem refValid_s (x:Gq4):q169q x=some x.good:=rfl
theorem cmpS_lt {a b : Int} : cmpS a b < 0 ↔ a < b := by unfold cmpS; repeat' split
                                                         all_goals omega
theorem cmpS_zero {a b : Int} : cmpS a b = 0 ↔ a = b := by unfold cmpS; repeat' split
                                                           all_goals omega
theorem cmpId_lt {x y:Gq4}:cmpId x y<0 ↔ x.Source<y.Source ∨ x.Source=y.Source∧x.Seq<y.Seq:=by
 unfold cmpId; have:=@cmpS_zero x.Source y.Source; split
 ·rw [cmpS_lt]; simp_all
 ·rw [cmpS_lt]; simp_all
theorem cmpId_zero {x y:Gq4}:cmpId x y=0 ↔ x.Source=y.Source∧x.Seq=y.Seq:=by
 unfold cmpId; have:=@cmpS_zero x.Source y.Source; have:=@cmpS_zero x.Seq y.Seq; split <;> simp_all
theorem cmpSt_lt {x y:Gq4}:cmpSt x y<0 ↔ x.Time<y.Time ∨ x.Time=y.Time∧(x.Source<y.Source ∨ x.Source=y.Source∧x.Seq<y.Seq):=by
 unfold cmpSt; have:=@cmpS_zero x.Time y.Time; split
 ·rw [cmpS_lt]; simp_all
 ·rw [cmpId_lt]; simp_all
theorem cmpSt_zero {x y:Gq4}:cmpSt x y=0 ↔ x=y:=by
 have h1:=@cmpS_zero x.Time y.Time
 have h2:=@cmpId_zero x y
 have h3:x=y ↔ x.Time=y.Time∧x.Source=y.Source∧x.Seq=y.Seq:=by cases x; cases y; simp
 unfold cmpSt; split <;> simp_all
theorem cmpSt_gt {x y:Gq4}:cmpSt x y > 0 ↔ cmpSt y x<0:=by
 rw [cmpSt_lt]
 unfold cmpSt cmpId cmpS
 repeat' split
 all_goals omega
end Go.Sh
set_option linter.unusedVariables false
set_option linter.unusedSimpArgs false
namespace Go.Sh
open Go.L

theorem sorted_ext {α:Type} {R:α→α→Prop} (hi:∀ a,¬ R a a) (ht:∀ a b c,R a b→R b c→R a c):∀ {xs ys:List α},xs.Pairwise R→ys.Pairwise R→(∀ a,a ∈ xs ↔ a ∈ ys)→xs=ys
 | [],[],_,_,_=>rfl
 | [],y :: ys,_,_,h=>by have:=(h y).2 (by simp); simp at this
 | x :: xs,[],_,_,h=>by have:=(h x).1 (by simp); simp at this
 | x :: xs,y :: ys,hx,hy,h=>by
  rw [List.pairwise_cons] at hx hy
  have hxy:x=y:=by
   rcases List.mem_cons.1 ((h x).1 (by simp)) with h1 | h1
   ·exact h1
   ·rcases List.mem_cons.1 ((h y).2 (by simp)) with h2 | h2
    ·exact h2.symm
    ·exact absurd (ht _ _ _ (hx.1 y h2) (hy.1 x h1)) (hi x)
  subst hxy
  congr 1
  refine sorted_ext hi ht hx.2 hy.2 fun a=>?_
  have:=h a
  simp only [List.mem_cons] at this
  constructor
  ·intro ha
   rcases this.1 (.inr ha) with h1 | h1
   ·subst h1; exact absurd (hx.1 a ha) (hi a)
   ·exact h1
  ·intro ha
   rcases this.2 (.inr ha) with h1 | h1
   ·subst h1; exact absurd (hy.1 a ha) (hi a)
   ·exact h1
def insS {α:Type} (lt:α→α→Bool) (x:α):List α→List α
 | []=>[x]
 | y :: r=>if lt x y then x :: y :: r else y :: insS lt x r
theorem mem_insS {α:Type} {lt:α→α→Bool} {x a:α}:∀ {l:List α},a ∈ insS lt x l ↔ a=x ∨ a ∈ l
 | []=>by simp [insS]
 | y :: r=>by
  simp only [insS]
  split
  ·simp
  ·simp only [List.mem_cons,mem_insS (l:=r)]
   constructor
   ·rintro (h | h | h) <;> simp [h]
   ·rintro (h | h | h) <;> simp [h]
theorem perm_insS {α:Type} {lt:α→α→Bool} {x:α}:∀ {l:List α},(insS lt x l).Perm (x :: l)
 | []=>.refl _
 | y :: r=>by
  simp only [insS]
  split
  ·exact .refl _
  ·exact (perm_insS.cons y).trans (List.Perm.swap x y r)
theorem sorted_insS {α:Type} {lt:α→α→Bool} {x:α}:∀ {l:List α},(∀ a ∈ x :: l,∀ b ∈ x :: l,∀ c ∈ x :: l,lt a b=true→lt b c=true→lt a c=true)→(∀ y ∈ l,lt x y=true ∨ lt y x=true)→l.Pairwise (fun a b=>lt a b=true)→(insS lt x l).Pairwise fun a b=>lt a b=true
 | [],_,_,_=>by simp [insS]
 | y :: r,ht,htot,hp=>by
  rw [List.pairwise_cons] at hp
  simp only [insS]
  split
  ·rename_i hxy
   rw [List.pairwise_cons]
   refine ⟨fun a ha=>?_,List.pairwise_cons.2 hp⟩
   rcases List.mem_cons.1 ha with rfl | ha'
   ·exact hxy
   ·exact ht x (by simp) y (by simp) a (by simp [ha']) hxy (hp.1 a ha')
  ·rename_i hxy
   have hyx:lt y x=true:=(htot y (by simp)).resolve_left hxy
   rw [List.pairwise_cons]
   have hm2:∀ a,a ∈ x :: r→a ∈ x :: y :: r:=fun a ha=>by rcases List.mem_cons.1 ha with h | h <;> simp [h]
   refine ⟨fun a ha=>?_,sorted_insS (fun a ha b hb c hc=>ht a (hm2 a ha) b (hm2 b hb) c (hm2 c hc)) (fun z hz=>htot z (by simp [hz])) hp.2⟩
   rcases mem_insS.1 ha with rfl | ha
   ·exact hyx
   ·exact hp.1 a ha
def isort {α:Type} (lt:α→α→Bool):List α→List α
 | []=>[]
 | x :: r=>insS lt x (isort lt r)
theorem perm_isort {α:Type} {lt:α→α→Bool}:∀ {l:List α},(isort lt l).Perm l
 | []=>.refl _
 | x :: r=>perm_insS.trans (perm_isort.cons x)
theorem sorted_isort {α:Type} {lt:α→α→Bool}:∀ {l:List α},(∀ a ∈ l,∀ b ∈ l,∀ c ∈ l,lt a b=true→lt b c=true→lt a c=true)→l.Pairwise (fun a b=>lt a b=true ∨ lt b a=true)→(isort lt l).Pairwise fun a b=>lt a b=true
 | [],_,_=>by simp [isort]
 | x :: r,ht,hp=>by
  rw [List.pairwise_cons] at hp
  simp only [isort]
  have hm:∀ a,a ∈ x :: isort lt r→a ∈ x :: r:=fun a ha=>by
   rcases List.mem_cons.1 ha with h | h
   ·simp [h]
   ·simp [perm_isort.mem_iff.1 h]
  exact sorted_insS (fun a ha b hb c hc=>ht a (hm a ha) b (hm b hb) c (hm c hc)) (fun y hy=>hp.1 y (perm_isort.mem_iff.1 hy)) (sorted_isort (fun a ha b hb c hc=>ht a (by simp [ha]) b (by simp [hb]) c (by simp [hc])) hp.2)
theorem sortF_by {α:Type} {c:α→α→Option Int} {xs:List α} (cf:α→α→Int) (hlen:xs.length<1000000) (hc:∀ x ∈ xs,∀ y ∈ xs,c x y=some (cf x y)) (hi:∀ x ∈ xs,¬ cf x x<0) (ht:∀ x ∈ xs,∀ y ∈ xs,∀ z ∈ xs,cf x y<0→cf y z<0→cf x z<0)
  (hn:∀ x ∈ xs,∀ y ∈ xs,∀ z ∈ xs,¬ cf x y<0→¬ cf y z<0→¬ cf x z<0) (hd:xs.Pairwise fun a b=>cf a b<0 ∨ cf b a<0):∃ ys,sortF c xs=some ys∧ys.Perm xs∧ys.Pairwise fun a b=>cf a b<0:=by
 have hs:=sorted_isort (lt:=fun a b=>decide (cf a b<0)) (l:=xs) (fun a ha b hb c hc=>by simpa using ht a ha b hb c hc) (by simpa using hd)
 have hs':(isort (fun a b=>decide (cf a b<0)) xs).Pairwise fun a b=>cf a b<0:=by simpa using hs
 exact ⟨_,sortF_eq ⟨perm_isort,hlen,cf,hc,hi,ht,hn,hs'⟩,perm_isort,hs'⟩

def sid (x y:Gq4):Prop:=x.Source=y.Source∧x.Seq=y.Seq
instance (x y:Gq4):Decidable (sid x y):=by unfold sid; infer_instance
def okAt (l:List Gq4) (i:Nat):Prop:=∃ x,l[i]?=some x∧x.good=true
def disp (l:List Gq4) (cl:List Int) (i k:Nat):Prop:=∃ x y c d,l[i]?=some x∧l[k]?=some y∧cl[i]?=some c∧cl[k]?=some d∧sid x y∧(x.Time ≠ y.Time ∨ c ≠ d)
def counts (l:List Gq4) (cl:List Int) (i:Nat):Prop:=okAt l i∧∀ k,okAt l k→¬ disp l cl i k∧(k<i→l[k]? ≠ l[i]?)
def ltAt (l:List Gq4) (a b:Int):Prop:=∃ x y,l[a.toNat]?=some x∧l[b.toNat]?=some y∧cmpSt x y<0
structure IsCanon (l:List Gq4) (cl:List Int) (a:List Int):Prop where
 sorted:a.Pairwise (ltAt l)
 mem:∀ i,i ∈ a ↔ 0≤i∧counts l cl i.toNat
theorem ltAt_irr (l:List Gq4) (a:Int):¬ ltAt l a a:=by
 rintro ⟨x,y,h1,h2,h3⟩
 rw [h1] at h2; cases h2
 rw [cmpSt_lt] at h3; omega
theorem ltAt_trans (l:List Gq4) (a b c:Int) (h:ltAt l a b) (h':ltAt l b c):ltAt l a c:=by
 obtain ⟨x,y,h1,h2,h3⟩:=h
 obtain ⟨y',z,h4,h5,h6⟩:=h'
 rw [h2] at h4; cases h4
 refine ⟨x,z,h1,h5,?_⟩
 rw [cmpSt_lt] at *; omega
theorem IsCanon.unique {l:List Gq4} {cl:List Int} {a b:List Int} (h:IsCanon l cl a) (h':IsCanon l cl b):a=b :=
 sorted_ext (ltAt_irr l) (ltAt_trans l) h.sorted h'.sorted fun i=>by rw [h.mem,h'.mem]
def Canon (l:List Gq4) (cl:List Int) (r:List Int × Int):Prop :=
 if l.length ≠ cl.length then r=([],1) else ∃ a,IsCanon l cl a∧r=if 300<a.length then ([],3) else (a,0)
theorem Canon.unique {l:List Gq4} {cl:List Int} {r s:List Int × Int} (h:Canon l cl r) (h':Canon l cl s):r=s:=by
 unfold Canon at *
 split at h
 ·rename_i hl; rw [if_pos hl] at h'; rw [h,h']
 ·rename_i hl; rw [if_neg hl] at h'
  obtain ⟨a,h1,rfl⟩:=h
  obtain ⟨b,h2,rfl⟩:=h'
  rw [h1.unique h2]
end Go.Sh
set_option linter.unusedVariables false
set_option linter.unusedSimpArgs false
namespace Go.Sh
open Go.L

theorem okAt_lt {l:List Gq4} {i:Nat} (h:i<l.length):okAt l i ↔ l[i].good=true:=by
 unfold okAt; simp [h]
theorem disp_lt {l:List Gq4} {cl:List Int} {i k:Nat} (h:i<l.length) (hk:k<l.length) (hl:l.length=cl.length):disp l cl i k ↔ sid l[i] l[k]∧(l[i].Time ≠ l[k].Time ∨ cl[i] ≠ cl[k]):=by
 unfold disp
 have h':i<cl.length:=by omega
 have hk':k<cl.length:=by omega
 simp only [List.getElem?_eq_getElem,h,hk,h',hk',Option.some.injEq]
 constructor
 ·rintro ⟨x,y,c,d,rfl,rfl,rfl,rfl,h1,h2⟩; exact ⟨h1,h2⟩
 ·rintro ⟨h1,h2⟩; exact ⟨_,_,_,_,rfl,rfl,rfl,rfl,h1,h2⟩
theorem okAt_ge {l:List Gq4} {i:Nat} (h:l.length≤i):¬ okAt l i:=by
 rintro ⟨x,h1,_⟩; rw [List.getElem?_eq_none h] at h1; cases h1

theorem counts_loop {l:List Gq4} {cl:List Int} {i:Nat} (hi:i<l.length) (hl:l.length=cl.length) (hb:l.length<1000000) (hgi:l[i].good=true) :
  ∀ n (k:Int),(∃ j:Nat,k=j∧j≤l.length∧∀ q,q<j→okAt l q→¬ disp l cl i q∧(q<i→l[q]? ≠ l[i]?))→(l.length - k.toNat)<n→∃ r,q83q l cl i n k=some r∧(r=true ↔ counts l cl i):=by
 refine loop1 (L:=q83q l cl i) (B:=q65q l cl i) (fun _=>rfl) _ (fun k:Int=>l.length - k.toNat) _ ?_
 rintro rec k ⟨j,rfl,hj,hI⟩ hrec
 have hi':i<cl.length:=by omega
 by_cases hlt:j<l.length
 ·have hj':j<cl.length:=by omega
  have d1:decide ((j:Int)<(l.length:Int))=true:=by simp; exact hlt
  have hnext:i64 ((j:Int)+1)=((j+1:Nat):Int):=by rw [i64_of (by omega) (by omega)]; rfl
  have hI':(okAt l j→¬ disp l cl i j∧(j<i→l[j]? ≠ l[i]?))→∃ r,rec (i64 ((j:Int)+1))=some r∧(r=true ↔ counts l cl i):=fun h=>by
   rw [hnext]
   refine hrec _ ⟨j+1,rfl,by omega,fun q hq=>?_⟩ (by simp; omega)
   rcases Nat.lt_succ_iff_lt_or_eq.1 hq with h1 | rfl
   ·exact hI q h1
   ·exact h
  unfold q65q
  simp only [d1,if_true,idx_lt hlt,idx_lt hi,idx_lt hj',idx_lt hi',refValid_s,Option.bind_some,q159q]
  by_cases hg:l[j].good=true
  ·have hok:okAt l j:=(okAt_lt hlt).2 hg
   simp only [hg,if_true]
   by_cases hd:((l[i].Source == l[j].Source) && ((l[i].Seq == l[j].Seq) && ((l[i].Time != l[j].Time) || (cl[i] != cl[j]))))=true
   ·simp only [hd,if_true,Option.bind_some]
    refine ⟨false,rfl,?_⟩
    simp only [Bool.false_eq_true,false_iff]
    intro hc
    refine (hc.2 j hok).1 ((disp_lt hi hlt hl).2 ?_)
    simp at hd; unfold sid; exact ⟨⟨hd.1,hd.2.1⟩,hd.2.2⟩
   ·have hd':¬ disp l cl i j:=fun h=>hd (by
     have:=(disp_lt hi hlt hl).1 h; unfold sid at this; simp [this])
    simp only [bF hd,Bool.false_eq_true,if_false]
    by_cases hji:j<i
    ·have:decide ((j:Int)<(i:Int))=true:=by simp; exact hji
     simp only [this,if_true,Option.bind_some]
     by_cases he:l[j]=l[i]
     ·simp only [he,decide_true,if_true]
      refine ⟨false,rfl,?_⟩
      simp only [Bool.false_eq_true,false_iff]
      intro hc
      exact (hc.2 j hok).2 hji (by simp [hlt,hi,he])
     ·simp only [he,decide_false,Bool.false_eq_true,if_false]
      exact hI' fun _=>⟨hd',fun _ h=>he (by simpa [hlt,hi] using h)⟩
    ·have:decide ((j:Int)<(i:Int))=false:=by simp; omega
     simp only [this,Bool.false_eq_true,if_false,Option.bind_some]
     exact hI' fun _=>⟨hd',fun h=>absurd h hji⟩
  ·simp only [bF hg,Bool.false_eq_true,if_false,Option.bind_some]
   exact hI' fun h=>absurd ((okAt_lt hlt).1 h) hg
 ·have d1:decide ((j:Int)<(l.length:Int))=false:=by simp; omega
  unfold q65q
  simp only [d1,Bool.false_eq_true,if_false]
  refine ⟨true,rfl,?_⟩
  simp only [true_iff]
  refine ⟨(okAt_lt hi).2 hgi,fun k hk=>hI k ?_ hk⟩
  by_cases hkl:k<l.length
  ·omega
  ·exact absurd hk (okAt_ge (by omega))
theorem refCounts_s {F:Nat} {l:List Gq4} {cl:List Int} {i:Nat} (hi:i<l.length) (hl:l.length=cl.length) (hb:l.length<1000000) (hF:l.length<F):∃ b,q153q F l cl i=some b∧(b=true ↔ counts l cl i):=by
 unfold q153q
 simp only [idx_lt hi,refValid_s,Option.bind_some]
 by_cases hg:l[i].good=true
 ·simp only [hg,Bool.not_true,Bool.false_eq_true,if_false]
  exact counts_loop hi hl hb hg F _ ⟨0,rfl,by omega,fun q hq=>by omega⟩ (by simpa using hF)
 ·simp only [bF hg,Bool.not_false,if_true]
  refine ⟨false,rfl,?_⟩
  simp only [Bool.false_eq_true,false_iff]
  exact fun h=>hg ((okAt_lt hi).1 h.1)
theorem counts_inj {l:List Gq4} {cl:List Int} {i k:Nat} (hi:counts l cl i) (hk:counts l cl k) (h:l[i]?=l[k]?):i=k:=by
 rcases Nat.lt_trichotomy i k with h1 | h1 | h1
 ·exact absurd h ((hk.2 i hi.1).2 h1)
 ·exact h1
 ·exact absurd h.symm ((hi.2 k hk.1).2 h1)
theorem counts_lt {l:List Gq4} {cl:List Int} {i:Nat} (h:counts l cl i):i<l.length:=by
 obtain ⟨⟨x,h1,_⟩,_⟩:=h
 exact (List.getElem?_eq_some_iff.1 h1).1
theorem counts_tot {l:List Gq4} {cl:List Int} {i k:Nat} (hi:counts l cl i) (hk:counts l cl k) (h:i ≠ k):ltAt l i k ∨ ltAt l k i:=by
 have h1:=counts_lt hi
 have h2:=counts_lt hk
 have h3:l[i] ≠ l[k]:=fun he=>h (counts_inj hi hk (by simp [h1,h2,he]))
 have h4:¬ cmpSt l[i] l[k]=0:=fun he=>h3 (cmpSt_zero.1 he)
 rcases Int.lt_or_gt_of_ne h4 with h5 | h5
 ·exact .inl ⟨l[i],l[k],by simp [h1],by simp [h2],h5⟩
 ·exact .inr ⟨l[k],l[i],by simp [h2],by simp [h1],cmpSt_gt.1 h5⟩

theorem refPlace {l:List Gq4} {cl:List Int} {out:List Int} {i:Nat} (hi:i<l.length) (hlen:out.length<1000000) (hout:∀ a ∈ out,0≤a∧a.toNat<l.length) (hs:out.Pairwise (ltAt l)) {rec1:List Int→Int→Option (List Int × Int)} {Post:List Int × Int→Prop}
  (h:∀ p s,out=p++s→(∀ a ∈ s,ltAt l i a)→(∀ a,p.getLast?=some a→¬ ltAt l i a)→∃ r,rec1 (p++(i:Int) :: s) (i64 ((i:Int)+1))=some r∧Post r) :
  ∀ n (k:Int),(∃ p s,out=p++s∧k=(p.length:Int)∧∀ a ∈ s,ltAt l i a)→k.toNat<n→∃ r,q49q rec1 l out i n k=some r∧Post r:=by
 refine loop1 (L:=q49q rec1 l out i) (B:=q58q rec1 l out i) (fun _=>rfl) _ (fun k:Int=>k.toNat) _ ?_
 rintro rec k ⟨p,s,rfl,rfl,hgt⟩ hrec
 unfold q58q
 have fin:(∀ a,p.getLast?=some a→¬ ltAt l i a)→∃ r,((slc (p++s) 0 (p.length:Int)).bind fun v16=>(app [] v16).bind fun v17=>(app v17 [(i:Int)]).bind fun v18=>(slc (p++s) (p.length:Int) ((p++s).length:Int)).bind fun v19=>(app v18 v19).bind fun v20=>rec1 v20 (i64 ((i:Int)+1)))=some r∧Post r:=fun hlast=>by
  simp only [List.length_append] at hlen
  rw [slc_take (by simp),slc_drop (by simp)]
  simp only [Option.bind_some,List.take_left,List.drop_left]
  rw [app_of (by simp; omega)]
  simp only [Option.bind_some,List.nil_append]
  rw [app_of (by simp; omega)]
  simp only [Option.bind_some]
  rw [app_of (by simp; omega)]
  simp only [Option.bind_some,List.append_assoc,List.singleton_append]
  exact h p s rfl hgt hlast
 rcases List.eq_nil_or_concat p with rfl | ⟨q,a,rfl⟩
 ·simp only [List.length_nil,Int.ofNat_zero,gt_iff_lt,Int.lt_irrefl,decide_false,Bool.false_eq_true,if_false,Option.bind_some]
  exact fin (by simp)
 ·rw [List.concat_eq_append] at *
  have ha:=hout a (by simp)
  have d1:decide (((q++[a]).length:Int) > 0)=true:=by simp only [List.length_append,List.length_singleton,decide_eq_true_eq]; omega
  have hw:i64 (((q++[a]).length:Int) - 1)=(q.length:Int):=by
   simp only [List.length_append,List.length_singleton] at hlen ⊢
   rw [i64_of (by omega) (by omega)]; omega
  have hq:idx (q++[a]++s) (q.length:Int)=some a:=by rw [List.append_assoc]; exact idx_at q a s
  have hx:idx l a=some l[a.toNat]:=by rw [idx_some]; exact ⟨ha.1,by simp [ha.2]⟩
  simp only [d1,if_true,hw,hq,hx,idx_lt hi,refCompare_s,Option.bind_some]
  by_cases hc:cmpSt l[a.toNat] l[i] > 0
  ·simp only [hc,decide_true,if_true]
   have hia:ltAt l i a:=⟨l[i],l[a.toNat],by simp [hi],by simp [ha.2],cmpSt_gt.1 hc⟩
   refine hrec _ ⟨q,a :: s,by simp,rfl,fun b hb=>?_⟩ (by simp)
   rcases List.mem_cons.1 hb with rfl | hb
   ·exact hia
   ·exact hgt b hb
  ·simp only [hc,decide_false,Bool.false_eq_true,if_false]
   refine fin fun b hb=>?_
   simp at hb; subst hb
   rintro ⟨x,y,h1,h2,h3⟩
   simp [hi] at h1
   simp [ha.2] at h2
   subst h1; subst h2
   exact hc (cmpSt_gt.2 h3)
theorem refCanon_loop {F:Nat} {l:List Gq4} {cl:List Int} (hl:l.length=cl.length) (hb:l.length<1000000) (hF:l.length<F) :
  ∀ n (out:List Int) (k:Int),(∃ j:Nat,k=j∧j≤l.length∧out.length≤j∧out.Pairwise (ltAt l)∧∀ i,i ∈ out ↔ 0≤i∧i.toNat<j∧counts l cl i.toNat)→(l.length - k.toNat)<n→∃ r,q48q F l cl n out k=some r∧Canon l cl r:=by
 refine loop2 (L:=q48q F l cl) (B:=q57q F l cl) (fun _=>rfl) _ (fun (_:List Int) (k:Int)=>l.length - k.toNat) _ ?_
 rintro rec out k ⟨j,rfl,hj,hlen,hs,hm⟩ hrec
 unfold q57q
 by_cases hlt:j<l.length
 ·have d1 : decide ((j : Int) < (l.length : Int)) = true := by simp; exact hlt
  have hnext:i64 ((j:Int)+1)=((j+1:Nat):Int):=by rw [i64_of (by omega) (by omega)]; rfl
  obtain ⟨b,h1,h2⟩:=refCounts_s (F:=F) hlt hl hb hF
  simp only [d1,if_true,h1,Option.bind_some]
  cases b with
  | false =>
   simp only [Bool.not_false,if_true]
   have hnc:¬ counts l cl j:=fun h=>by simpa using h2.2 h
   rw [hnext]
   refine hrec _ _ ⟨j+1,rfl,by omega,by omega,hs,fun i=>?_⟩ (by simp; omega)
   rw [hm]
   constructor
   ·rintro ⟨a1,a2,a3⟩; exact ⟨a1,by omega,a3⟩
   ·rintro ⟨a1,a2,a3⟩
    refine ⟨a1,?_,a3⟩
    rcases Nat.lt_succ_iff_lt_or_eq.1 a2 with h | h
    ·exact h
    ·rw [h] at a3; exact absurd a3 hnc
  | true =>
   simp only [Bool.not_true,Bool.false_eq_true,if_false]
   have hc:counts l cl j:=h2.1 rfl
   refine refPlace (cl:=cl) hlt (by omega) (fun a ha=>?_) hs ?_ F _ ⟨out,[],by simp,rfl,by simp⟩ (by simp; omega)
   ·have:=(hm a).1 ha; exact ⟨this.1,by omega⟩
   ·rintro p s rfl hgt hlast
    rw [hnext]
    have hne:∀ a ∈ p++s,a ≠ (j:Int):=fun a ha h=>by have:=(hm a).1 ha; omega
    have hpl:∀ a ∈ p,ltAt l a j:=by
     intro a ha
     have hlst:∀ b,p.getLast?=some b→ltAt l b j:=fun b hb=>by
      have hbm:b ∈ p++s:=by simp [List.mem_of_getLast? hb]
      have hbc:=(hm b).1 hbm
      have:=counts_tot hbc.2.2 hc (fun h=>by have:=hbc.2.1; omega)
      rw [Int.toNat_of_nonneg hbc.1] at this
      exact this.resolve_right (hlast b hb)
     rcases List.eq_nil_or_concat p with rfl | ⟨q,b,rfl⟩
     ·simp at ha
     ·rw [List.concat_eq_append] at *
      have hb:=hlst b (by simp)
      rcases List.mem_append.1 ha with ha | ha
      ·have:ltAt l a b:=by
        rw [List.append_assoc,List.pairwise_append] at hs
        exact hs.2.2 a ha b (by simp)
       exact ltAt_trans l a b j this hb
      ·simp at ha; subst ha; exact hb
    refine hrec _ _ ⟨j+1,rfl,by omega,by simp at hlen ⊢; omega,?_,fun i=>?_⟩ (by simp; omega)
    ·rw [List.pairwise_append] at hs ⊢
     refine ⟨hs.1,?_,fun a ha b hb=>?_⟩
     ·rw [List.pairwise_cons]; exact ⟨hgt,hs.2.1⟩
     ·rcases List.mem_cons.1 hb with rfl | hb
      ·exact hpl a ha
      ·exact hs.2.2 a ha b hb
    ·have:=hm i
     simp only [List.mem_append,List.mem_cons] at this ⊢
     constructor
     ·rintro (h | h | h)
      ·have:=this.1 (.inl h); exact ⟨this.1,by omega,this.2.2⟩
      ·subst h; exact ⟨by omega,by simp,by simpa using hc⟩
      ·have:=this.1 (.inr h); exact ⟨this.1,by omega,this.2.2⟩
     ·rintro ⟨a1,a2,a3⟩
      by_cases hij:i=(j:Int)
      ·exact .inr (.inl hij)
      ·rcases this.2 ⟨a1,by omega,a3⟩ with h | h
       ·exact .inl h
       ·exact .inr (.inr h)
 ·have d1:decide ((j:Int)<(l.length:Int))=false:=by simp; omega
  simp only [d1,Bool.false_eq_true,if_false]
  have hcan:IsCanon l cl out:=⟨hs,fun i=>by
   rw [hm]
   constructor
   ·rintro ⟨a1,_,a3⟩; exact ⟨a1,a3⟩
   ·rintro ⟨a1,a3⟩; exact ⟨a1,by have:=counts_lt a3; omega,a3⟩⟩
  by_cases h3:300<out.length
  ·have:decide ((out.length:Int) > 300)=true:=by simp; omega
   simp only [this,if_true]
   refine ⟨_,rfl,?_⟩
   unfold Canon; rw [if_neg (by omega)]
   exact ⟨out,hcan,by rw [if_pos h3]⟩
  ·have:decide ((out.length:Int) > 300)=false:=by simp; omega
   simp only [this,Bool.false_eq_true,if_false]
   refine ⟨_,rfl,?_⟩
   unfold Canon; rw [if_neg (by omega)]
   exact ⟨out,hcan,by rw [if_neg h3]⟩
theorem refCanonical_s {F:Nat} {l:List Gq4} {cl:List Int} (hb:l.length<1000000) (hF:l.length<F):∃ r,q82q F l cl=some r∧Canon l cl r:=by
 unfold q82q
 by_cases hl:l.length=cl.length
 ·have:((cl.length:Int) != (l.length:Int))=false:=by simp; omega
  simp only [this,Bool.false_eq_true,if_false]
  exact refCanon_loop hl hb hF F _ _ ⟨0,rfl,by omega,by simp,by simp,fun i=>by simp⟩ (by simpa using hF)
 ·have:((cl.length:Int) != (l.length:Int))=true:=by simp; omega
  simp only [this,if_true]
  exact ⟨_,rfl,by unfold Canon; rw [if_pos hl]⟩
end Go.Sh
set_option linter.unusedVariables false
set_option linter.unusedSimpArgs false
namespace Go.Sh
open Go.L

def sat (l:List Gq4) (i:Int):Gq4:=l.getD i.toNat default
def cat (cl:List Int) (i:Int):Int:=cl.getD i.toNat 0
def vat (l:List Gq4) (i:Int):Prop:=0≤i∧okAt l i.toNat
theorem vat_lt {l:List Gq4} {i:Int} (h:vat l i):i.toNat<l.length:=by
 obtain ⟨_,x,h1,_⟩:=h; exact (List.getElem?_eq_some_iff.1 h1).1
theorem vat_idx {l:List Gq4} {i:Int} (h:vat l i):idx l i=some (sat l i):=by
 have:=vat_lt h
 rw [idx_some]; exact ⟨h.1,by simp [sat,this]⟩
theorem vat_cidx {l:List Gq4} {cl:List Int} {i:Int} (h:vat l i) (hl:l.length=cl.length):idx cl i=some (cat cl i):=by
 have:=vat_lt h
 have:i.toNat<cl.length:=by omega
 rw [idx_some]; exact ⟨h.1,by simp [cat,this]⟩
theorem vat_get {l:List Gq4} {i:Int} (h:vat l i):l[i.toNat]?=some (sat l i):=by
 have:=vat_lt h; simp [sat,this]
theorem vat_cget {l:List Gq4} {cl:List Int} {i:Int} (h:vat l i) (hl:l.length=cl.length):cl[i.toNat]?=some (cat cl i):=by
 have:=vat_lt h
 have:i.toNat<cl.length:=by omega
 simp [cat,this]
def diff (l:List Gq4) (cl:List Int) (i k:Int):Prop:=sat l i ≠ sat l k ∨ cat cl i ≠ cat cl k
def cmpIx (l:List Gq4) (i j:Int):Int:=if cmpId (sat l i) (sat l j) ≠ 0 then cmpId (sat l i) (sat l j) else cmpS i j
theorem cmpIx_lt {l:List Gq4} {i j:Int}:cmpIx l i j<0 ↔ ((sat l i).Source<(sat l j).Source ∨ (sat l i).Source=(sat l j).Source∧((sat l i).Seq<(sat l j).Seq ∨ (sat l i).Seq=(sat l j).Seq∧i<j)):=by
 have h1:=@cmpId_lt (sat l i) (sat l j)
 have h2:=@cmpId_zero (sat l i) (sat l j)
 have h3:=@cmpS_lt i j
 unfold cmpIx; split <;> omega
theorem groups1_s {F:Nat} (hF:10≤F) {l:List Gq4} {i j:Int} (hi:vat l i) (hj:vat l j):q95q F i j l=some (cmpIx l i j):=by
 simp only [q95q,vat_idx hi,vat_idx hj,compareId_s hF,compare_s,Option.bind_some]
 rw [or_s (by simp) (by simp; omega)]
 simp only [Option.bind_some,orS,cmpIx]
 repeat' split
 all_goals simp_all

structure Groups (l:List Gq4) (cl:List Int) (T:List Int) (gs:List q0q):Prop where
 first:∀ g ∈ gs,g.first ∈ T
 each:∀ t ∈ T,∃ g ∈ gs,cmpId (sat l g.first) (sat l t)=0∧g.first≤t
 dsp:∀ g ∈ gs,(g.disputed=true ↔ ∃ t ∈ T,cmpId (sat l g.first) (sat l t)=0∧diff l cl g.first t)
 asc:gs.Pairwise fun g h=>cmpId (sat l g.first) (sat l h.first)<0
 len:gs.length≤T.length
 last:∀ g,gs.getLast?=some g→∀ t ∈ T,¬ cmpId (sat l g.first) (sat l t)<0
theorem Groups.new {l:List Gq4} {cl:List Int} {T:List Int} {gs:List q0q} {x:Int} (h:Groups l cl T gs) (hx:∀ t ∈ T,cmpIx l t x<0) (hn:∀ g,gs.getLast?=some g→cmpId (sat l g.first) (sat l x) ≠ 0):Groups l cl (T++[x]) (gs++[⟨x,false⟩]):=by
 have hlt:∀ g ∈ gs,cmpId (sat l g.first) (sat l x)<0:=by
  intro g hg
  rcases List.eq_nil_or_concat gs with rfl | ⟨gs',g',rfl⟩
  ·simp at hg
  ·rw [List.concat_eq_append] at *
   have h1:cmpId (sat l g'.first) (sat l x)<0:=by
    have a1:=hn g' (by simp)
    have a2:=hx g'.first (h.first g' (by simp))
    rw [cmpIx_lt] at a2; rw [cmpId_lt]; have:=mt (@cmpId_zero (sat l g'.first) (sat l x)).2 a1; omega
   rcases List.mem_append.1 hg with hg | hg
   ·have:=(List.pairwise_append.1 h.asc).2.2 g hg g' (by simp)
    rw [cmpId_lt] at *; omega
   ·simp at hg; subst hg; exact h1
 have htlt:∀ t ∈ T,cmpId (sat l t) (sat l x)<0:=by
  intro t ht
  obtain ⟨g,hg,h1,_⟩:=h.each t ht
  have h2:=hlt g hg
  rw [cmpId_zero] at h1; rw [cmpId_lt] at *; omega
 constructor
 ·intro g hg
  rcases List.mem_append.1 hg with hg | hg
  ·simp [h.first g hg]
  ·simp at hg; subst hg; simp
 ·intro t ht
  rcases List.mem_append.1 ht with ht | ht
  ·obtain ⟨g,hg,h1⟩:=h.each t ht; exact ⟨g,by simp [hg],h1⟩
  ·simp at ht; subst ht; exact ⟨⟨t,false⟩,by simp,by simp [cmpId_zero],Int.le_refl _⟩
 ·intro g hg0
  rcases List.mem_append.1 hg0 with hg | hg
  ·rw [h.dsp g hg]
   constructor
   ·rintro ⟨t,ht,h1⟩; exact ⟨t,by simp [ht],h1⟩
   ·rintro ⟨t,ht,h1⟩
    have:=hlt g hg
    rcases List.mem_append.1 ht with ht | ht
    ·exact ⟨t,ht,h1⟩
    ·simp at ht; rw [ht] at h1; omega
  ·simp at hg; subst hg
   simp only [Bool.false_eq_true,false_iff]
   rintro ⟨t,ht,h1,h2⟩
   rcases List.mem_append.1 ht with ht | ht
   ·have:=htlt t ht; rw [cmpId_zero] at h1; rw [cmpId_lt] at this; omega
   ·simp at ht; subst ht; rcases h2 with h2 | h2 <;> exact h2 rfl
 ·rw [List.pairwise_append]; exact ⟨h.asc,by simp,fun g hg g' hg'=>by simp at hg'; subst hg'; exact hlt g hg⟩
 ·simp; exact h.len
 ·intro g hg t ht
  simp at hg; subst hg
  show ¬ cmpId (sat l x) (sat l t)<0
  rcases List.mem_append.1 ht with ht | ht
  ·have:=htlt t ht; rw [cmpId_lt] at *; omega
  ·simp at ht; subst ht; rw [cmpId_lt]; omega
theorem Groups.old {l:List Gq4} {cl:List Int} {T:List Int} {gs:List q0q} {g:q0q} {x:Int} {b:Bool} (h:Groups l cl T (gs++[g])) (hx:∀ t ∈ T,cmpIx l t x<0) (he:cmpId (sat l g.first) (sat l x)=0) (hb:b=true ↔ g.disputed=true ∨ diff l cl g.first x):Groups l cl (T++[x]) (gs++[⟨g.first,b⟩]):=by
 have hgx:g.first≤x:=by
  have:=hx g.first (h.first g (by simp))
  rw [cmpIx_lt] at this; rw [cmpId_zero] at he; omega
 have hlt:∀ k ∈ gs,cmpId (sat l k.first) (sat l x)<0:=fun k hk=>by
  have:=(List.pairwise_append.1 h.asc).2.2 k hk g (by simp)
  rw [cmpId_zero] at he; rw [cmpId_lt] at *; omega
 constructor
 ·intro k hk
  rcases List.mem_append.1 hk with hk | hk
  ·simp [h.first k (by simp [hk])]
  ·simp at hk; subst hk; simp [h.first g (by simp)]
 ·intro t ht
  rcases List.mem_append.1 ht with ht | ht
  ·obtain ⟨k,hk,h1⟩:=h.each t ht
   rcases List.mem_append.1 hk with hk | hk
   ·exact ⟨k,by simp [hk],h1⟩
   ·simp at hk; subst hk; exact ⟨⟨k.first,b⟩,by simp,h1⟩
  ·simp at ht; subst ht; exact ⟨⟨g.first,b⟩,by simp,he,hgx⟩
 ·intro k hk
  rcases List.mem_append.1 hk with hk | hk
  ·rw [h.dsp k (by simp [hk])]
   constructor
   ·rintro ⟨t,ht,h1⟩; exact ⟨t,by simp [ht],h1⟩
   ·rintro ⟨t,ht,h1⟩
    rcases List.mem_append.1 ht with ht | ht
    ·exact ⟨t,ht,h1⟩
    ·simp at ht; subst ht; have:=hlt k hk; omega
  ·simp at hk; subst hk
   show b=true ↔ _
   rw [hb,h.dsp g (by simp)]
   constructor
   ·rintro (⟨t,ht,h1⟩ | h1)
    ·exact ⟨t,by simp [ht],h1⟩
    ·exact ⟨x,by simp,he,h1⟩
   ·rintro ⟨t,ht,h1,h2⟩
    rcases List.mem_append.1 ht with ht | ht
    ·exact .inl ⟨t,ht,h1,h2⟩
    ·simp at ht; subst ht; exact .inr h2
 ·have:=h.asc
  rw [List.pairwise_append] at this ⊢
  exact ⟨this.1,by simp,fun k hk g' hg'=>by simp at hg'; subst hg'; exact this.2.2 k hk g (by simp)⟩
 ·have:=h.len; simp at this ⊢; omega
 ·intro k hk t ht
  simp at hk; subst hk
  rcases List.mem_append.1 ht with ht | ht
  ·exact h.last g (by simp) t ht
  ·simp at ht; subst ht; show ¬ cmpId (sat l g.first) _<0; omega

theorem groups_loop {F:Nat} (hF:10≤F) {l:List Gq4} {cl:List Int} (hl:l.length=cl.length) (hb:l.length<1000000) {S:List Int} (hS:S.Pairwise fun a b=>cmpIx l a b<0) (hv:∀ i ∈ S,vat l i) (hSl:S.length≤l.length) :
  ∀ n (k:Int) (gs:List q0q),(∃ T U,S=T++U∧k=(T.length:Int)∧Groups l cl T gs)→(S.length - k.toNat)<n→∃ r,q86q F l cl S n k gs=some r∧Groups l cl S r:=by
 refine loop2 (L:=q86q F l cl S) (B:=q90q F l cl S) (fun _=>rfl) _ (fun (k:Int) (_:List q0q)=>S.length - k.toNat) _ ?_
 rintro rec k gs ⟨T,U,hTU,rfl,hG⟩ hrec
 unfold q90q
 cases U with
 | nil =>
  have d1:decide ((T.length:Int)<(S.length:Int))=false:=by subst hTU; simp
  simp only [d1,Bool.false_eq_true,if_false]
  refine ⟨gs,rfl,?_⟩
  subst hTU; simpa using hG
 | cons x U =>
  have d1:decide ((T.length:Int)<(S.length:Int))=true:=by subst hTU; exact dlt T x U
  have hix:idx S (T.length:Int)=some x:=by subst hTU; exact idx_at T x U
  have hTl:T.length<1000000:=by have:=congrArg List.length hTU; simp at this; omega
  have hx:∀ t ∈ T,cmpIx l t x<0:=fun t ht=>by
   rw [hTU] at hS; exact (List.pairwise_append.1 hS).2.2 t ht x (by simp)
  have vx:vat l x:=hv x (by rw [hTU]; simp)
  have hgo:∀ gs',Groups l cl (T++[x]) gs'→∃ r,rec (i64 ((T.length:Int)+1)) gs'=some r∧Groups l cl S r:=fun gs' hg'=>by
   rw [nxt T x (by omega)]
   refine hrec _ _ ⟨T++[x],U,by simp [hTU],rfl,hg'⟩ ?_
   have:=congrArg List.length hTU
   simp at this ⊢; omega
  simp only [d1,if_true,hix,Option.bind_some]
  have hgl:gs.length≤T.length:=hG.len
  rcases List.eq_nil_or_concat gs with rfl | ⟨gs',g,rfl⟩
  ·have:decide (i64 ((([]:List q0q).length:Int) - 1)<0)=true:=by rw [i64_of (by simp) (by simp)]; simp
   simp only [this,if_true,Option.bind_some]
   rw [app_of (by simp)]
   exact hgo _ (hG.new hx (by simp))
  ·rw [List.concat_eq_append] at *
   simp only [List.length_append,List.length_singleton] at hgl
   have hw:i64 (((gs'++[g]).length:Int) - 1)=(gs'.length:Int):=by
    simp only [List.length_append,List.length_singleton]
    rw [i64_of (by omega) (by omega)]; omega
   have hgx:idx (gs'++[g]) (gs'.length:Int)=some g:=idx_at gs' g []
   have hneg:decide ((gs'.length:Int)<0)=false:=by simp
   have vg:vat l g.first:=hv _ (by rw [hTU]; simp [hG.first g (by simp)])
   have hap:app (gs'++[g]) [q0q.mk x false]=some (gs'++[g]++[q0q.mk x false]):=app_of (by simp; omega)
   simp only [hw,hneg,hgx,vat_idx vg,vat_idx vx,vat_cidx vg hl,vat_cidx vx hl,compareId_s hF,Bool.false_eq_true,if_false,Option.bind_some,bne_iff_ne,ne_eq,hap]
   by_cases he:cmpId (sat l g.first) (sat l x)=0
   ·simp only [he,not_true_eq_false,if_false,Bool.not_eq_eq_eq_not,Bool.not_true,decide_eq_false_iff_not]
    have hset:(gs'++[g]).set ((gs'.length:Int)).toNat (q0q.mk g.first true)=gs'++[q0q.mk g.first true]:=by simp
    by_cases hd:sat l g.first=sat l x
    ·simp only [hd,not_true_eq_false,if_false,Option.bind_some,bne_iff_ne,ne_eq]
     by_cases hc:cat cl g.first=cat cl x
     ·simp only [hc,not_true_eq_false,if_false]
      have:=hG.old (b:=g.disputed) hx he ⟨.inl,fun h=>h.elim id fun h=>(h.elim (fun h=>absurd hd h) fun h=>absurd hc h)⟩
      exact hgo _ this
     ·simp only [hc,not_false_eq_true,if_true,hset]
      exact hgo _ (hG.old (b:=true) hx he ⟨fun _=>.inr (.inr hc),fun _=>rfl⟩)
    ·simp only [hd,not_false_eq_true,if_true,Option.bind_some,hset]
     exact hgo _ (hG.old (b:=true) hx he ⟨fun _=>.inr (.inl hd),fun _=>rfl⟩)
   ·simp only [he,not_false_eq_true,if_true]
    exact hgo _ (hG.new hx (by simpa using he))
theorem groups_first {F:Nat} (hF:10≤F) {l:List Gq4} {cl:List Int} (hl:l.length=cl.length) (hb:l.length<1000000) (hFl:l.length<F) :
  ∀ n (k:Int) (acc:List Int),(∃ j:Nat,k=j∧j≤l.length∧acc.length≤j∧acc.Pairwise (·<·)∧∀ i,i ∈ acc ↔ vat l i∧i<j)→(l.length - k.toNat)<n →
   ∃ r,q85q F l cl n k acc=some r∧∃ S,(∀ i,i ∈ S ↔ vat l i)∧S.length≤l.length∧Groups l cl S r:=by
 refine loop2 (L:=q85q F l cl) (B:=q89q F l cl) (fun _=>rfl) _ (fun (k:Int) (_:List Int)=>l.length - k.toNat) _ ?_
 rintro rec k acc ⟨j,rfl,hj,hlen,hs,hm⟩ hrec
 unfold q89q
 by_cases hlt:j<l.length
 ·have d1:decide ((j:Int)<(l.length:Int))=true:=by simp; exact hlt
  have hnext:i64 ((j:Int)+1)=((j+1:Nat):Int):=by rw [i64_of (by omega) (by omega)]; rfl
  simp only [d1,if_true,idx_lt hlt,valid_s,Option.bind_some]
  by_cases hg:l[j].good=true
  ·simp only [hg,if_true]
   rw [app_of (by simp; omega)]
   simp only [Option.bind_some,hnext]
   refine hrec _ _ ⟨j+1,rfl,by omega,by simp; omega,?_,fun i=>?_⟩ (by simp; omega)
   ·rw [List.pairwise_append]; exact ⟨hs,by simp,fun a ha b hb=>by simp at hb; subst hb; exact ((hm a).1 ha).2⟩
   ·simp only [List.mem_append,List.mem_singleton,hm]
    constructor
    ·rintro (⟨h1,h2⟩ | rfl)
     ·exact ⟨h1,by omega⟩
     ·exact ⟨⟨by omega,by simpa using (okAt_lt hlt).2 hg⟩,by omega⟩
    ·rintro ⟨h1,h2⟩
     by_cases h:i=(j:Int)
     ·exact .inr h
     ·exact .inl ⟨h1,by omega⟩
  ·simp only [bF hg,Bool.false_eq_true,if_false,hnext]
   refine hrec _ _ ⟨j+1,rfl,by omega,by omega,hs,fun i=>?_⟩ (by simp; omega)
   rw [hm]
   constructor
   ·rintro ⟨h1,h2⟩; exact ⟨h1,by omega⟩
   ·rintro ⟨h1,h2⟩
    refine ⟨h1,?_⟩
    by_cases h:i=(j:Int)
    ·subst h; exact absurd ((okAt_lt hlt).1 (by simpa using h1.2)) hg
    ·omega
 ·have d1:decide ((j:Int)<(l.length:Int))=false:=by simp; omega
  simp only [d1,Bool.false_eq_true,if_false]
  have hv:∀ i,i ∈ acc ↔ vat l i:=fun i=>by
   rw [hm]
   constructor
   ·exact fun h=>h.1
   ·intro h; refine ⟨h,?_⟩; have:=vat_lt h; have:=h.1; omega
  obtain ⟨S,h1,h2,h3⟩:=sortF_by (c:=fun a0 a1=>q95q F a0 a1 l) (xs:=acc) (cmpIx l) (by omega) (fun x hx y hy=>groups1_s hF ((hv x).1 hx) ((hv y).1 hy)) (fun x _=>by rw [cmpIx_lt]; omega)
   (fun x _ y _ z _ a b=>by rw [cmpIx_lt] at *; omega) (fun x _ y _ z _ a b=>by rw [cmpIx_lt] at *; omega) (hs.imp fun {a b} h=>by simp only [cmpIx_lt]; omega)
  simp only [h1,Option.bind_some]
  have hSv:∀ i,i ∈ S ↔ vat l i:=fun i=>by rw [h2.mem_iff,hv]
  have hSl:S.length≤l.length:=by rw [h2.length_eq]; omega
  obtain ⟨r,h4,h5⟩:=groups_loop hF hl hb h3 (fun i hi=>(hSv i).1 hi) hSl F 0 [] ⟨[],S,rfl,rfl,⟨by simp,by simp,by simp,by simp,by simp,by simp⟩⟩ (by simp; omega)
  exact ⟨r,h4,S,hSv,hSl,h5⟩
structure AllGroups (l:List Gq4) (cl:List Int) (gs:List q0q):Prop where
 first:∀ g ∈ gs,vat l g.first
 each:∀ t,vat l t→∃ g ∈ gs,cmpId (sat l g.first) (sat l t)=0∧g.first≤t
 dsp:∀ g ∈ gs,(g.disputed=true ↔ ∃ t,vat l t∧cmpId (sat l g.first) (sat l t)=0∧diff l cl g.first t)
 asc:gs.Pairwise fun g h=>cmpId (sat l g.first) (sat l h.first)<0
 len:gs.length≤l.length
theorem groups_s {F:Nat} (hF:10≤F) {l:List Gq4} {cl:List Int} (hl:l.length=cl.length) (hb:l.length<1000000) (hFl:l.length<F):∃ gs,q179q F l cl=some gs∧AllGroups l cl gs:=by
 obtain ⟨r,h1,S,h2,h3,h4⟩:=groups_first hF hl hb hFl F 0 [] ⟨0,rfl,by omega,by simp,by simp,fun i=>by simp [vat]; omega⟩ (by simpa using hFl)
 refine ⟨r,h1,fun g hg=>(h2 _).1 (h4.first g hg),fun t ht=>h4.each t ((h2 t).2 ht),fun g hg=>?_,h4.asc,Nat.le_trans h4.len h3⟩
 rw [h4.dsp g hg]
 simp only [h2]
end Go.Sh
set_option linter.unusedVariables false
set_option linter.unusedSimpArgs false
namespace Go.Sh
open Go.L

theorem counts_iff {l:List Gq4} {cl:List Int} {gs:List q0q} (hl:l.length=cl.length) (hG:AllGroups l cl gs) (i:Int):(0≤i∧counts l cl i.toNat) ↔ ∃ g ∈ gs,g.disputed=false∧g.first=i:=by
 have hdisp:∀ a b:Int,vat l a→vat l b→(disp l cl a.toNat b.toNat ↔ cmpId (sat l a) (sat l b)=0∧((sat l a).Time ≠ (sat l b).Time ∨ cat cl a ≠ cat cl b)):=fun a b ha hb=>by
  unfold disp sid
  rw [cmpId_zero,vat_get ha,vat_get hb,vat_cget ha hl,vat_cget hb hl]
  simp only [Option.some.injEq]
  constructor
  ·rintro ⟨x,y,c,d,rfl,rfl,rfl,rfl,h⟩; exact h
  ·intro h; exact ⟨_,_,_,_,rfl,rfl,rfl,rfl,h⟩
 have heq:∀ x y:Gq4,cmpId x y=0→(x=y ↔ x.Time=y.Time):=fun x y h=>by
  rw [cmpId_zero] at h
  cases x; cases y; simp at h ⊢; simp [h]
 constructor
 ·rintro ⟨h0,hc⟩
  have hv:vat l i:=⟨h0,hc.1⟩
  obtain ⟨g,hg,h1,h2⟩:=hG.each i hv
  have vg:=hG.first g hg
  have hnd:∀ t,vat l t→¬ (cmpId (sat l i) (sat l t)=0∧((sat l i).Time ≠ (sat l t).Time ∨ cat cl i ≠ cat cl t)):=fun t ht h=>(hc.2 t.toNat ht.2).1 ((hdisp i t hv ht).2 h)
  have h1':cmpId (sat l i) (sat l g.first)=0:=by rw [cmpId_zero] at *; omega
  have hgi:g.first=i:=by
   by_cases hlt:g.first<i
   ·have a1:=hnd _ vg
    have a2:sat l g.first=sat l i:=(heq _ _ h1).2 (Decidable.byContradiction fun hne=>a1 ⟨h1',.inl fun h=>hne h.symm⟩)
    have a3:=(hc.2 g.first.toNat vg.2).2 (by have:=vg.1; omega)
    rw [vat_get vg,vat_get hv,a2] at a3
    exact absurd rfl a3
   ·omega
  refine ⟨g,hg,?_,hgi⟩
  cases hd:g.disputed with
  | false=>rfl
  | true =>
   obtain ⟨t,ht,b1,b2⟩:=(hG.dsp g hg).1 hd
   rw [hgi] at b1 b2
   refine absurd ?_ (hnd t ht)
   refine ⟨b1,?_⟩
   rcases b2 with b2 | b2
   ·exact .inl fun h=>b2 ((heq _ _ b1).2 h)
   ·exact .inr b2
 ·rintro ⟨g,hg,hd,rfl⟩
  have vg:=hG.first g hg
  refine ⟨vg.1,vg.2,fun k hk=>?_⟩
  have vk:vat l (k:Int):=⟨by omega,by simpa using hk⟩
  constructor
  ·intro h
   have h':=(hdisp g.first k vg vk).1 (by simpa using h)
   have:g.disputed=true:=(hG.dsp g hg).2 ⟨k,vk,h'.1,by
    rcases h'.2 with h | h
    ·exact .inl fun he=>h (by rw [he])
    ·exact .inr h⟩
   rw [hd] at this; cases this
  ·intro hlt he
   have he':sat l k=sat l g.first:=by
    have:=vat_get vk
    simp only [Int.toNat_natCast] at this
    rw [this,vat_get vg] at he; exact Option.some.inj he
   obtain ⟨g',hg',h1,h2⟩:=hG.each k vk
   have hgg:cmpId (sat l g'.first) (sat l g.first)=0:=by rw [← he']; exact h1
   have:g'=g:=by
    by_cases h:g'=g
    ·exact h
    ·have ha:=hG.asc
     have:cmpId (sat l g'.first) (sat l g.first)<0 ∨ cmpId (sat l g.first) (sat l g'.first)<0:=by
      obtain ⟨a,ha'⟩:=List.mem_iff_getElem.1 hg'
      obtain ⟨b,hb'⟩:=List.mem_iff_getElem.1 hg
      rw [List.pairwise_iff_getElem] at ha
      obtain ⟨la,rfl⟩:=ha'
      obtain ⟨lb,rfl⟩:=hb'
      rcases Nat.lt_trichotomy a b with h3 | h3 | h3
      ·exact .inl (ha a b la lb h3)
      ·subst h3; exact absurd rfl h
      ·exact .inr (ha b a lb la h3)
     rw [cmpId_zero] at hgg; rw [cmpId_lt,cmpId_lt] at this; omega
   subst this
   have:=vg.1; omega
theorem canon1_s {F:Nat} (hF:10≤F) {l:List Gq4} {i j:Int} (hi:vat l i) (hj:vat l j):q66q F i j l=some (cmpSt (sat l i) (sat l j)):=by
 simp only [q66q,vat_idx hi,vat_idx hj,stampCompare_s hF,Option.bind_some]
def firsts (gs:List q0q):List Int:=(gs.filter fun g=>!g.disputed).map (·.first)
theorem firsts_len (gs:List q0q):(firsts gs).length≤gs.length:=by
 unfold firsts; rw [List.length_map]; exact List.length_filter_le _ _
theorem canonical_loop {F:Nat} (hF:10≤F) {l:List Gq4} {cl:List Int} (hl:l.length=cl.length) (hb:l.length<1000000) {gs:List q0q} (hG:AllGroups l cl gs) :
  ∀ n (k:Int) (acc:List Int),(∃ p s,gs=p++s∧k=(p.length:Int)∧acc=firsts p)→(gs.length - k.toNat)<n→∃ r,q54q F l gs n k acc=some r∧Canon l cl r:=by
 refine loop2 (L:=q54q F l gs) (B:=q63q F l gs) (fun _=>rfl) _ (fun (k:Int) (_:List Int)=>gs.length - k.toNat) _ ?_
 rintro rec k acc ⟨p,s,hps,rfl,rfl⟩ hrec
 unfold q63q
 have hgl:=hG.len
 have hpl:p.length≤gs.length:=by rw [hps]; simp
 have hfl:=firsts_len p
 cases s with
 | cons g s =>
  have d1:decide ((p.length:Int)<(gs.length:Int))=true:=by rw [hps]; exact dlt p g s
  have hix:idx gs (p.length:Int)=some g:=by rw [hps]; exact idx_at p g s
  have hm:gs.length - ((p++[g]).length:Int).toNat<gs.length - (p.length:Int).toNat:=by
   have:=congrArg List.length hps; simp at this ⊢; omega
  simp only [d1,if_true,hix,Option.bind_some,nxt p g (by omega)]
  cases hd:g.disputed with
  | false =>
   simp only [Bool.not_false,if_true]
   rw [app_of (by simp; omega)]
   exact hrec _ _ ⟨p++[g],s,by simp [hps],rfl,by simp [firsts,hd]⟩ hm
  | true =>
   simp only [Bool.not_true,Bool.false_eq_true,if_false]
   exact hrec _ _ ⟨p++[g],s,by simp [hps],rfl,by simp [firsts,hd]⟩ hm
 | nil =>
  have hpg:gs=p:=by simpa using hps
  subst hpg
  have d1:decide ((gs.length:Int)<(gs.length:Int))=false:=by simp
  simp only [d1,Bool.false_eq_true,if_false]
  have hmem:∀ i,i ∈ firsts gs ↔ 0≤i∧counts l cl i.toNat:=fun i=>by
   rw [counts_iff hl hG]
   simp only [firsts,List.mem_map,List.mem_filter,Bool.not_eq_eq_eq_not,Bool.not_true]
   constructor
   ·rintro ⟨g,⟨h1,h2⟩,h3⟩; exact ⟨g,h1,h2,h3⟩
   ·rintro ⟨g,h1,h2,h3⟩; exact ⟨g,⟨h1,h2⟩,h3⟩
  have hvat:∀ i ∈ firsts gs,vat l i:=fun i hi=>by have:=(hmem i).1 hi; exact ⟨this.1,this.2.1⟩
  have hnd:(firsts gs).Pairwise fun a b=>a ≠ b:=by
   unfold firsts
   rw [List.pairwise_map]
   refine (hG.asc.filter _).imp fun {a b} h he=>?_
   rw [he,cmpId_lt] at h; omega
  have hlt:∀ i j,vat l i→vat l j→(cmpSt (sat l i) (sat l j)<0 ↔ ltAt l i j):=fun i j hi hj=>by
   unfold ltAt; rw [vat_get hi,vat_get hj]
   constructor
   ·intro h; exact ⟨_,_,rfl,rfl,h⟩
   ·rintro ⟨x,y,h1,h2,h3⟩; cases h1; cases h2; exact h3
  obtain ⟨a,h1,h2,h3⟩:=sortF_by (c:=fun a0 a1=>q66q F a0 a1 l) (xs:=firsts gs) (fun i j=>cmpSt (sat l i) (sat l j)) (by omega) (fun x hx y hy=>canon1_s hF (hvat x hx) (hvat y hy)) (fun x _=>by rw [cmpSt_lt]; omega)
   (fun x _ y _ z _ p q=>by rw [cmpSt_lt] at *; omega) (fun x _ y _ z _ p q=>by rw [cmpSt_lt] at *; omega) (List.Pairwise.imp_of_mem (fun {x y} hx hy hne=>by
    have cx:=(hmem x).1 hx
    have cy:=(hmem y).1 hy
    have:=counts_tot cx.2 cy.2 (fun h=>hne (by omega))
    rw [Int.toNat_of_nonneg cx.1,Int.toNat_of_nonneg cy.1,← hlt x y (hvat x hx) (hvat y hy),← hlt y x (hvat y hy) (hvat x hx)] at this
    exact this) hnd)
  have hcan:IsCanon l cl a:=⟨List.Pairwise.imp_of_mem (fun {x y} hx hy h=>(hlt x y (hvat x (h2.mem_iff.1 hx)) (hvat y (h2.mem_iff.1 hy))).1 h) h3,fun i=>by rw [h2.mem_iff]; exact hmem i⟩
  have hlen:(firsts gs).length=a.length:=h2.length_eq.symm
  by_cases h300:300<a.length
  ·have:decide (((firsts gs).length:Int) > 300)=true:=by simp; omega
   simp only [this,if_true]
   refine ⟨_,rfl,?_⟩
   unfold Canon; rw [if_neg (by omega)]
   exact ⟨a,hcan,by rw [if_pos h300]⟩
  ·have:decide (((firsts gs).length:Int) > 300)=false:=by simp; omega
   simp only [this,Bool.false_eq_true,if_false,h1,Option.bind_some]
   refine ⟨_,rfl,?_⟩
   unfold Canon; rw [if_neg (by omega)]
   exact ⟨a,hcan,by rw [if_neg h300]⟩
theorem canonical_s {F:Nat} (hF:10≤F) {l:List Gq4} {cl:List Int} (hb:l.length<1000000) (hFl:l.length<F):∃ r,q84q F l cl=some r∧Canon l cl r:=by
 unfold q84q
 by_cases hl:l.length=cl.length
 ·have:((l.length:Int) != (cl.length:Int))=false:=by simp; omega
  simp only [this,Bool.false_eq_true,if_false]
  obtain ⟨gs,h1,h2⟩:=groups_s hF hl hb hFl
  simp only [h1,Option.bind_some]
  have:=h2.len
  exact canonical_loop hF hl hb h2 F 0 [] ⟨[],gs,rfl,rfl,rfl⟩ (by simp; omega)
 ·have:((l.length:Int) != (cl.length:Int))=true:=by simp; omega
  simp only [this,if_true]
  exact ⟨_,rfl,by unfold Canon; rw [if_pos hl]⟩
end Go.Sh
set_option linter.unusedVariables false
set_option linter.unusedSimpArgs false
namespace Go.Sh
open Go.L

def okB (l:List Gq4) (i:Nat):Bool:=match l[i]? with | some x=>x.good | .none=>false
theorem okB_iff {l:List Gq4} {i:Nat}:okB l i=true ↔ okAt l i:=by
 unfold okB okAt; cases l[i]? <;> simp
def dispB (l:List Gq4) (cl:List Int) (i k:Nat):Bool:=match l[i]?,l[k]?,cl[i]?,cl[k]? with
 | some x,some y,some c,some d=>decide (x.Source=y.Source) && decide (x.Seq=y.Seq) && (decide (x.Time ≠ y.Time) || decide (c ≠ d))
 | _,_,_,_=>false
theorem dispB_iff {l:List Gq4} {cl:List Int} {i k:Nat}:dispB l cl i k=true ↔ disp l cl i k:=by
 unfold dispB disp sid
 cases l[i]? with
 | none=>simp
 | some x=>cases l[k]? with
  | none=>simp
  | some y=>cases cl[i]? with
   | none=>simp
   | some c=>cases cl[k]? with
    | none=>simp
    | some d=>simp [and_assoc]
def countsB (l:List Gq4) (cl:List Int) (i:Nat):Bool:=okB l i && (List.range l.length).all fun k=>!okB l k || (!dispB l cl i k && (!decide (k<i) || decide (l[k]? ≠ l[i]?)))
theorem countsB_iff {l:List Gq4} {cl:List Int} {i:Nat}:countsB l cl i=true ↔ counts l cl i:=by
 unfold countsB counts
 simp only [Bool.and_eq_true,okB_iff,List.all_eq_true,List.mem_range,Bool.or_eq_true,Bool.not_eq_true',decide_eq_true_eq,decide_eq_false_iff_not]
 constructor
 ·rintro ⟨h1,h2⟩
  refine ⟨h1,fun k hk=>?_⟩
  have hkl:k<l.length:=by
   by_cases h:k<l.length
   ·exact h
   ·exact absurd hk (okAt_ge (by omega))
  rcases h2 k hkl with h | ⟨h3,h4⟩
  ·have:=okB_iff.2 hk; rw [h] at this; cases this
  ·refine ⟨fun h=>?_,fun h=>h4.resolve_left (by omega)⟩
   have:=dispB_iff.2 h; rw [h3] at this; cases this
 ·rintro ⟨h1,h2⟩
  refine ⟨h1,fun k hk=>?_⟩
  cases hok:okB l k with
  | false=>exact .inl rfl
  | true =>
   right
   have:=h2 k (okB_iff.1 hok)
   refine ⟨?_,?_⟩
   ·cases hd:dispB l cl i k with
    | false=>rfl
    | true=>exact absurd (dispB_iff.1 hd) this.1
   ·by_cases h:k<i
    ·exact .inr (this.2 h)
    ·exact .inl h
def ltB (l:List Gq4) (a b:Int):Bool:=match l[a.toNat]?,l[b.toNat]? with
 | some x,some y=>decide (cmpSt x y<0)
 | _,_=>false
theorem ltB_iff {l:List Gq4} {a b:Int}:ltB l a b=true ↔ ltAt l a b:=by
 unfold ltB ltAt
 cases l[a.toNat]? with
 | none=>simp
 | some x=>cases l[b.toNat]? with
  | none=>simp
  | some y=>simp
def canonL (l:List Gq4) (cl:List Int):List Int:=isort (ltB l) (((List.range l.length).filter (countsB l cl)).map Int.ofNat)
theorem canonL_is (l:List Gq4) (cl:List Int):IsCanon l cl (canonL l cl):=by
 have hmem:∀ i,i ∈ ((List.range l.length).filter (countsB l cl)).map Int.ofNat ↔ 0≤i∧counts l cl i.toNat:=fun i=>by
  simp only [List.mem_map,List.mem_filter,List.mem_range,countsB_iff]
  constructor
  ·rintro ⟨k,⟨h1,h2⟩,rfl⟩; exact ⟨by simp,by simpa using h2⟩
  ·rintro ⟨h1,h2⟩; exact ⟨i.toNat,⟨counts_lt h2,h2⟩,by simp; omega⟩
 constructor
 ·have:=sorted_isort (lt:=ltB l) (l:=((List.range l.length).filter (countsB l cl)).map Int.ofNat) (fun a _ b _ c _ h1 h2=>by rw [ltB_iff] at *; exact ltAt_trans l a b c h1 h2) (by
   rw [List.pairwise_map]
   refine List.Pairwise.imp_of_mem (fun {a b} ha hb hab=>?_) ((List.pairwise_lt_range (n:=l.length)).filter _)
   rw [ltB_iff,ltB_iff]
   simp only [List.mem_filter,countsB_iff] at ha hb
   exact counts_tot ha.2 hb.2 (by omega))
  exact this.imp fun h=>ltB_iff.1 h
 ·intro i
  rw [canonL,perm_isort.mem_iff]; exact hmem i
def canonS (l:List Gq4) (cl:List Int):List Int × Int:=if l.length ≠ cl.length then ([],1) else if 300<(canonL l cl).length then ([],3) else (canonL l cl,0)
theorem canonS_is (l:List Gq4) (cl:List Int):Canon l cl (canonS l cl):=by
 unfold Canon canonS
 split
 ·rfl
 ·exact ⟨canonL l cl,canonL_is l cl,rfl⟩
theorem canonical_e {F:Nat} (hF:10≤F) {l:List Gq4} {cl:List Int} (hb:l.length<1000000) (hFl:l.length<F):q84q F l cl=some (canonS l cl):=by
 obtain ⟨r,h1,h2⟩:=canonical_s hF (cl:=cl) hb hFl
 rw [h1,h2.unique (canonS_is l cl)]
theorem refCanonical_e {F:Nat} {l:List Gq4} {cl:List Int} (hb:l.length<1000000) (hFl:l.length<F):q82q F l cl=some (canonS l cl):=by
 obtain ⟨r,h1,h2⟩:=refCanonical_s (cl:=cl) hb hFl
 rw [h1,h2.unique (canonS_is l cl)]
structure Tp (t:GTape):Prop where
 len:t.L.length≤600
 lo:0≤t.At
 hi:t.At≤600
theorem new_s (l:List Int):∃ t,make_New l=some t∧Tp t:=by
 unfold make_New
 by_cases h:(l.length:Int) > 600
 ·simp only [h,decide_true,if_true]
  rw [show (600:Int)=((600:Nat):Int) from rfl,slc_take (by omega)]
  exact ⟨_,rfl,⟨by simp; omega,by simp,by simp⟩⟩
 ·simp only [h,decide_false,Bool.false_eq_true,if_false]
  exact ⟨_,rfl,⟨by simp; omega,by simp,by simp⟩⟩
theorem raw_s {t:GTape} (h:Tp t):∃ x t',Gq29 t=some (x,t')∧Tp t':=by
 have h1:=h.len; have h2:=h.lo; have h3:=h.hi
 unfold Gq29
 by_cases hc:t.At ≥ (t.L.length:Int)
 ·simp only [hc,decide_true,if_true]; exact ⟨_,_,rfl,h⟩
 ·simp only [hc,decide_false,Bool.false_eq_true,if_false]
  rw [i64_of (n:=t.At+1) (by omega) (by omega),i64_of (by omega) (by omega)]
  have hx:idx t.L (t.At+1 - 1)=some t.L[t.At.toNat]:=by
   rw [idx_some,show t.At+1 - 1=t.At by omega]
   exact ⟨h2,by simp⟩
  rw [hx]
  exact ⟨_,_,rfl,⟨h1,by simp; omega,by simp; omega⟩⟩
theorem cut_s (x n:Int) (hn:n≤1000000000):∃ r,make_Cut x n=some r∧0≤r∧(1≤n→r<n)∧(n<1→r=0):=by
 unfold make_Cut
 by_cases h:n<1
 ·simp only [h,decide_true,if_true]; exact ⟨0,rfl,by omega,by omega,by omega⟩
 ·simp only [h,decide_false,Bool.false_eq_true,if_false]
  have hr:rmd x n=some (x.tmod n):=by unfold rmd; rw [if_neg (by omega)]
  simp only [hr,Option.bind_some]
  have b1:x.tmod n<n:=Int.tmod_lt_of_pos x (by omega)
  have b2:-n<x.tmod n:=by
   have:=Int.lt_tmod_of_pos x (show 0<n by omega)
   omega
  by_cases h0:x.tmod n<0
  ·simp only [h0,decide_true,if_true]
   rw [i64_of (by omega) (by omega)]
   exact ⟨_,rfl,by omega,fun _=>by omega,fun hh=>hh.elim⟩
  ·simp only [h0,decide_false,Bool.false_eq_true,if_false]
   exact ⟨_,rfl,by omega,fun _=>by omega,fun hh=>hh.elim⟩
theorem next_s {t:GTape} (h:Tp t) (n:Int) (hn:n≤1000000000):∃ x t',Gq18 t n=some (x,t')∧Tp t'∧0≤x∧(1≤n→x<n)∧(n<1→x=0):=by
 obtain ⟨x,t',h1,h2⟩:=raw_s h
 obtain ⟨r,h3,h4⟩:=cut_s x n hn
 exact ⟨r,t',by simp [Gq18,h1,h3],h2,h4⟩
theorem range_s {t:GTape} (h:Tp t) (a b:Int) (ha:-1000≤a) (hab:a≤b) (hb:b≤100000000):∃ x t',Gq27 t a b=some (x,t')∧Tp t'∧a≤x∧x≤b:=by
 obtain ⟨x,t',h1,h2,h3,h4,_⟩:=next_s h (b - a+1) (by omega)
 refine ⟨a+x,t',?_,h2,by omega,by have:=h4 (by omega); omega⟩
 have:=h4 (by omega)
 simp only [Gq27]
 rw [i64_of (n:=b - a) (by omega) (by omega),i64_of (n:=b - a+1) (by omega) (by omega),h1]
 simp only [Option.bind_some]
 rw [i64_of (by omega) (by omega)]
theorem one_s {t:GTape} (h:Tp t) (n:Int) (hn:n≤1000000000):∃ b t',Gq20 t n=some (b,t')∧Tp t':=by
 obtain ⟨x,t',h1,h2,_⟩:=next_s h n hn
 exact ⟨(x == i64 (n - 1)),t',by simp only [Gq20,h1,Option.bind_some],h2⟩
theorem pick_s {t:GTape} (h:Tp t) (l:List Int) (hl:1≤l.length) (hl2:l.length≤1000):∃ x t',Gq25 t l=some (x,t')∧Tp t'∧x ∈ l:=by
 obtain ⟨x,t',h1,h2,h3,h4,_⟩:=next_s h l.length (by omega)
 have:=h4 (by omega)
 have hx:idx l x=some l[x.toNat]:=by rw [idx_some]; exact ⟨h3,by simp⟩
 exact ⟨l[x.toNat],t',by simp only [Gq25,h1,Option.bind_some,hx],h2,by simp⟩
theorem wild_s {t:GTape} (h:Tp t):∃ x t',Gq33 t=some (x,t')∧Tp t':=by
 obtain ⟨x,t',h1,h2,_⟩:=pick_s h [(-1),0,1,2,31,32,99,100,200,201,9999,10000,1000000,1000001,1152921504606846976,1152921504606846977,(-1152921504606846976),9223372036854775807,(-9223372036854775808)] (by simp) (by simp)
 exact ⟨x,t',by simp only [Gq33,h1,Option.bind_some],h2⟩
theorem tp_mk {t:GTape} (h:Tp t):Tp (GTape.mk t.L t.At):=h
theorem tstamp_s {t:GTape} (h:Tp t) (n:Int) (hn:n≤1000000):∃ x t',Gq31 t n=some (x,t')∧Tp t':=by
 obtain ⟨a,t1,a1,a2,_⟩:=range_s h 0 24 (by omega) (by omega) (by omega)
 obtain ⟨b,t2,b1,b2,_⟩:=range_s a2 0 3 (by omega) (by omega) (by omega)
 obtain ⟨c,t3,c1,c2,_⟩:=range_s b2 0 9 (by omega) (by omega) (by omega)
 simp only [Gq31,a1,b1,c1,Option.bind_some]
 by_cases hp:n > 0
 ·obtain ⟨d,t4,d1,d2⟩:=one_s c2 n (by omega)
  simp only [hp,decide_true,if_true,d1,Option.bind_some]
  cases d with
  | false=>exact ⟨_,_,rfl,tp_mk d2⟩
  | true =>
   obtain ⟨e,t5,e1,e2,_⟩:=next_s (tp_mk d2) 3 (by omega)
   obtain ⟨w,t6,w1,w2⟩:=wild_s e2
   simp only [if_true,e1,w1,Option.bind_some]
   split
   ·exact ⟨_,_,rfl,w2⟩
   ·split
    ·exact ⟨_,_,rfl,w2⟩
    ·exact ⟨_,_,rfl,w2⟩
 ·simp only [hp,decide_false,Bool.false_eq_true,if_false,Option.bind_some]
  exact ⟨_,_,rfl,tp_mk c2⟩
end Go.Sh
set_option linter.unusedVariables false
set_option linter.unusedSimpArgs false
namespace Go.Sh
open Go.L

def SetC {E:Type} (st:E→Gq4) (l:List E) (e:E):Prop:=e ∈ l∧(st e).good=true∧∀ e' ∈ l,(st e').good=true→sid (st e') (st e)→e'=e
structure IsEv {E:Type} (st:E→Gq4) (l C:List E):Prop where
 sorted:C.Pairwise fun a b=>cmpSt (st a) (st b)<0
 mem:∀ e,e ∈ C ↔ SetC st l e
theorem IsEv.unique {E:Type} {st:E→Gq4} {l C D:List E} (h:IsEv st l C) (h':IsEv st l D):C=D :=
 sorted_ext (R:=fun a b=>cmpSt (st a) (st b)<0) (fun a h=>by rw [cmpSt_lt] at h; omega) (fun a b c h1 h2=>by rw [cmpSt_lt] at *; omega) h.sorted h'.sorted fun e=>by rw [h.mem,h'.mem]
theorem SetC.congr {E:Type} {st:E→Gq4} {l m:List E} (h:∀ e,e ∈ l ↔ e ∈ m) (e:E):SetC st l e ↔ SetC st m e:=by
 unfold SetC; simp only [h]
theorem IsEv.congr {E:Type} {st:E→Gq4} {l m C:List E} (h:∀ e,e ∈ l ↔ e ∈ m) (hC:IsEv st l C):IsEv st m C :=
 ⟨hC.sorted,fun e=>by rw [hC.mem,SetC.congr h]⟩
structure ClsOk {E:Type} (st:E→Gq4) (l:List E) (cl:List Int):Prop where
 len:l.length=cl.length
 iff:∀ (i:Nat) (x:E) (c:Int),l[i]?=some x→cl[i]?=some c →
  ((∀ (k:Nat) (y:E) (d:Int),l[k]?=some y→cl[k]?=some d→st y=st x→d=c) ↔ (∀ y ∈ l,st y=st x→y=x))
theorem stamp_ext {x y:Gq4} (h1:x.Time=y.Time) (h2:x.Source=y.Source) (h3:x.Seq=y.Seq):x=y:=by
 cases x; cases y; simp_all
theorem counts_set {E:Type} {st:E→Gq4} {l:List E} {cl:List Int} (h:ClsOk st l cl) {i:Nat} {x:E} (hx:l[i]?=some x) :
  counts (l.map st) cl i ↔ SetC st l x∧∀ k,k<i→l[k]? ≠ some x:=by
 have hi:i<l.length:=(List.getElem?_eq_some_iff.1 hx).1
 have hi':i<cl.length:=by have:=h.len; omega
 obtain ⟨c,hc⟩:∃ c,cl[i]?=some c:=⟨cl[i],by simp [hi']⟩
 have key:=h.iff i x c hx hc
 have hix:(l.map st)[i]?=some (st x):=by simp [hx]
 have hcl:∀ (k:Nat) (y:E),l[k]?=some y→∃ d,cl[k]?=some d:=fun k y hy=>by
  have:k<l.length:=(List.getElem?_eq_some_iff.1 hy).1
  have hk:k<cl.length:=by have:=h.len; omega
  exact ⟨cl[k],by simp [hk]⟩
 constructor
 ·rintro ⟨⟨x',h1,h2⟩,h3⟩
  rw [hix] at h1; cases h1
  have hall:∀ (k:Nat) (y:E) (d:Int),l[k]?=some y→cl[k]?=some d→(st y).good=true→sid (st y) (st x)→(st y).Time=(st x).Time∧d=c:=fun k y d hy hd hg hs=>by
   have hk:(l.map st)[k]?=some (st y):=by simp [hy]
   have:=(h3 k ⟨st y,hk,hg⟩).1
   apply Classical.byContradiction
   intro hn
   refine this ⟨st x,st y,c,d,hix,hk,hc,hd,⟨hs.1.symm,hs.2.symm⟩,?_⟩
   by_cases ht:(st x).Time=(st y).Time
   ·exact .inr fun hcd=>hn ⟨ht.symm,hcd.symm⟩
   ·exact .inl ht
  have heq:∀ y ∈ l,st y=st x→y=x:=key.1 fun k y d hy hd hs=>(hall k y d hy hd (by rw [hs]; exact h2) (by rw [hs]; exact ⟨rfl,rfl⟩)).2
  refine ⟨⟨List.mem_of_getElem? hx,h2,fun y hy hg hs=>?_⟩,fun k hk hkx=>?_⟩
  ·obtain ⟨k,hk⟩:=List.getElem?_of_mem hy
   obtain ⟨d,hd⟩:=hcl k y hk
   exact heq y hy (stamp_ext (hall k y d hk hd hg hs).1 hs.1 hs.2)
  ·have hkk:(l.map st)[k]?=some (st x):=by simp [hkx]
   exact (h3 k ⟨st x,hkk,h2⟩).2 hk (by rw [hkk,hix])
 ·rintro ⟨⟨h1,h2,h3⟩,h4⟩
  refine ⟨⟨st x,hix,h2⟩,fun k hk=>⟨?_,fun hki he=>?_⟩⟩
  ·rintro ⟨x',y',c',d,a1,a2,a3,a4,a5,a6⟩
   rw [hix] at a1; cases a1
   rw [hc] at a3; cases a3
   simp only [List.getElem?_map,Option.map_eq_some_iff] at a2
   obtain ⟨y,hy,rfl⟩:=a2
   have hgy:(st y).good=true:=by
    obtain ⟨z,b1,b2⟩:=hk
    simp only [List.getElem?_map,hy,Option.map_some,Option.some.injEq] at b1
    rw [b1]; exact b2
   have hyx:y=x:=h3 y (List.mem_of_getElem? hy) hgy ⟨a5.1.symm,a5.2.symm⟩
   subst hyx
   rcases a6 with a6 | a6
   ·exact a6 rfl
   ·refine a6 (key.2 (fun z hz hzx=>h3 z hz (by rw [hzx]; exact h2) (by rw [hzx]; exact ⟨rfl,rfl⟩)) k y d hy a4 rfl).symm
  ·obtain ⟨z,b1,b2⟩:=hk
   rw [b1,hix] at he
   cases he
   simp only [List.getElem?_map,Option.map_eq_some_iff] at b1
   obtain ⟨y,hy,hyx⟩:=b1
   have:y=x:=h3 y (List.mem_of_getElem? hy) (by rw [hyx]; exact h2) (by rw [hyx]; exact ⟨rfl,rfl⟩)
   subst this
   exact h4 k hki hy
theorem first_place {E:Type} [DecidableEq E] {x:E}:∀ {l:List E},x ∈ l→∃ i:Nat,l[i]?=some x∧∀ k,k<i→l[k]? ≠ some x
  | [],h=>by simp at h
  | y :: r,h=>by
    by_cases hxy:y=x
    · exact ⟨0,by simp [hxy],by omega⟩
    · have hr : x ∈ r := by rcases List.mem_cons.1 h with h | h
                            · exact absurd h.symm hxy
                            · exact h
      obtain ⟨i,h1,h2⟩:=first_place hr
      refine ⟨i+1,by simpa using h1,fun k hk=>?_⟩
      cases k with
      | zero=>simpa using hxy
      | succ k=>simpa using h2 k (by omega)
def pickL {E:Type} (l:List E) (a:List Int):List E:=a.filterMap fun i=>l[i.toNat]?
theorem pickL_len {E:Type} {l:List E}:∀ {a:List Int},(∀ i ∈ a,i.toNat<l.length)→(pickL l a).length=a.length
 | [],_=>rfl
 | i :: a,h=>by
  have hi:=h i (by simp)
  have:=pickL_len (l:=l) (a:=a) fun j hj=>h j (by simp [hj])
  simp only [pickL] at this
  simp [pickL,hi,this]
theorem isEv_of {E:Type} [DecidableEq E] {st:E→Gq4} {l:List E} {cl:List Int} (h:ClsOk st l cl) {a:List Int} (ha:IsCanon (l.map st) cl a):IsEv st l (pickL l a):=by
 have hlt:∀ i ∈ a,i.toNat<l.length:=fun i hi=>by have:=counts_lt ((ha.mem i).1 hi).2; simpa using this
 refine ⟨?_,fun e=>?_⟩
 ·unfold pickL
  rw [List.pairwise_filterMap]
  refine List.Pairwise.imp_of_mem (fun {i j} hi hj hij=>?_) ha.sorted
  intro x hx y hy
  obtain ⟨p,q,h1,h2,h3⟩:=hij
  simp only [List.getElem?_map,Option.map_eq_some_iff] at h1 h2
  obtain ⟨x',h4,rfl⟩:=h1
  obtain ⟨y',h5,rfl⟩:=h2
  simp_all
 ·simp only [pickL,List.mem_filterMap]
  constructor
  ·rintro ⟨i,hi,hx⟩
   exact ((counts_set h hx).1 ((ha.mem i).1 hi).2).1
  ·intro he
   obtain ⟨i,h1,h2⟩:=first_place he.1
   exact ⟨(i:Int),(ha.mem _).2 ⟨by omega,by simpa using (counts_set h h1).2 ⟨he,h2⟩⟩,by simpa using h1⟩
def clsR {E:Type} [DecidableEq E] (l:List E):List Int:=l.map fun x=>(l.findIdx (fun y=>decide (y=x)):Int)
theorem clsR_ok {E:Type} [DecidableEq E] (st:E→Gq4) (l:List E):ClsOk st l (clsR l):=by
 refine ⟨by simp [clsR],fun i x c hx hc=>?_⟩
 have hcx:c=(l.findIdx (fun y=>decide (y=x)):Int):=by simp [clsR,hx] at hc; exact hc.symm
 constructor
 ·intro h y hy hs
  obtain ⟨k,hk⟩:=List.getElem?_of_mem hy
  have:=h k y (l.findIdx (fun z=>decide (z=y)):Int) hk (by simp [clsR,hk]) hs
  rw [hcx] at this
  have hf:l.findIdx (fun z=>decide (z=y))=l.findIdx (fun z=>decide (z=x)):=by omega
  have hlt:l.findIdx (fun z=>decide (z=x))<l.length:=List.findIdx_lt_length_of_exists ⟨x,List.mem_of_getElem? hx,by simp⟩
  have e1:=List.findIdx_getElem (xs:=l) (p:=fun z=>decide (z=x)) (w:=hlt)
  have hlt2:l.findIdx (fun z=>decide (z=y))<l.length:=by rw [hf]; exact hlt
  have e2:=List.findIdx_getElem (xs:=l) (p:=fun z=>decide (z=y)) (w:=hlt2)
  simp only [decide_eq_true_eq] at e1 e2
  rw [← e1,← e2]
  simp only [hf]
 ·intro h k y d hy hd hs
  have:=h y (List.mem_of_getElem? hy) hs
  subst this
  simp [clsR,hy] at hd
  rw [hcx,← hd]
def clsP {E:Type} [DecidableEq E] (st:E→Gq4) (l:List E):List Int:=l.map fun x=>if l.find? (fun y=>decide (st y=st x))=some x then 0 else 1
theorem clsP_ok {E:Type} [DecidableEq E] (st:E→Gq4) (l:List E):ClsOk st l (clsP st l):=by
 refine ⟨by simp [clsP],fun i x c hx hc=>?_⟩
 have hcx:c=if l.find? (fun y=>decide (st y=st x))=some x then 0 else 1:=by simp [clsP,hx] at hc; exact hc.symm
 obtain ⟨f,hf⟩:∃ f,l.find? (fun y=>decide (st y=st x))=some f:=by
  cases h:l.find? (fun y=>decide (st y=st x)) with
  | none=>rw [List.find?_eq_none] at h; exact absurd (h x (List.mem_of_getElem? hx)) (by simp)
  | some f=>exact ⟨f,rfl⟩
 have hfs:st f=st x:=by simpa using List.find?_some hf
 have hfm:f ∈ l:=List.mem_of_find?_eq_some hf
 have hfc:∀ y,st y=st x→l.find? (fun z=>decide (st z=st y))=some f:=fun y hy=>by rw [hy]; exact hf
 constructor
 ·intro h
  obtain ⟨k,hk⟩:=List.getElem?_of_mem hfm
  have h0:=h k f 0 hk (by simp [clsP,hk,hfc f hfs]) hfs
  have hall:∀ y ∈ l,st y=st x→y=f:=fun y hy hs=>by
   obtain ⟨j,hj⟩:=List.getElem?_of_mem hy
   have:=h j y _ hj (by simp only [clsP,List.getElem?_map,hj,Option.map_some]; rfl) hs
   rw [← h0,hfc y hs] at this
   by_cases he:f=y
   ·exact he.symm
   ·rw [if_neg (by simpa using he)] at this; omega
  intro y hy hs
  rw [hall y hy hs,hall x (List.mem_of_getElem? hx) rfl]
 ·intro h k y d hy hd hs
  have:=h y (List.mem_of_getElem? hy) hs
  subst this
  simp only [clsP,List.getElem?_map,hy,Option.map_some,Option.some.injEq] at hd
  rw [hcx,← hd]
def evL {E:Type} [DecidableEq E] (st:E→Gq4) (l:List E):List E:=pickL l (canonL (l.map st) (clsR l))
theorem evL_is {E:Type} [DecidableEq E] (st:E→Gq4) (l:List E):IsEv st l (evL st l):=isEv_of (clsR_ok st l) (canonL_is _ _)
theorem evL_of {E:Type} [DecidableEq E] {st:E→Gq4} {l:List E} {cl:List Int} (h:ClsOk st l cl):pickL l (canonL (l.map st) cl)=evL st l :=
 (isEv_of h (canonL_is _ _)).unique (evL_is st l)
theorem canonL_lt {l:List Gq4} {cl:List Int} {i:Int} (h:i ∈ canonL l cl):0≤i∧i.toNat<l.length:=by
 have:=((canonL_is l cl).mem i).1 h; exact ⟨this.1,counts_lt this.2⟩
theorem evL_len {E:Type} [DecidableEq E] {st:E→Gq4} {l:List E} {cl:List Int} (h:ClsOk st l cl):(canonL (l.map st) cl).length=(evL st l).length:=by
 rw [← evL_of h,pickL_len]
 intro i hi; have:=(canonL_lt hi).2; simpa using this
theorem canonS_ev {E:Type} [DecidableEq E] {st:E→Gq4} {l:List E} {cl:List Int} (h:ClsOk st l cl):canonS (l.map st) cl=if 300<(evL st l).length then ([],3) else (canonL (l.map st) cl,0):=by
 have h1:=h.len
 unfold canonS
 rw [if_neg (by simpa using h1),evL_len h]
theorem isort_len {α:Type} {lt:α→α→Bool} (l:List α):(isort lt l).length=l.length:=perm_isort.length_eq
theorem canonL_len (l:List Gq4) (cl:List Int):(canonL l cl).length≤l.length:=by
 unfold canonL
 rw [isort_len,List.length_map]
 have:=List.length_filter_le (countsB l cl) (List.range l.length)
 simpa using this
theorem evL_le {E:Type} [DecidableEq E] (st:E→Gq4) (l:List E):(evL st l).length≤l.length:=by
 rw [← evL_len (clsR_ok st l)]
 have:=canonL_len (l.map st) (clsR l)
 simpa using this
def canonEv {E:Type} [DecidableEq E] (st:E→Gq4) (l:List E):List E × Int:=if 300<(evL st l).length then ([],3) else (evL st l,0)
end Go.Sh
set_option linter.unusedVariables false
set_option linter.unusedSimpArgs false
namespace Go.Sh
open Go.L

def run {α σ R:Type} (g:Nat→α→σ→R ⊕ σ) (e:σ→R):Nat→List α→σ→R
 | _,[],s=>e s
 | i,x :: l,s=>match g i x s with | .inl r=>r | .inr s'=>run g e (i+1) l s'
theorem runLoop {α σ R:Type} {a:List α} {L:Nat→Int→σ→Option R} (g:Nat→α→σ→R ⊕ σ) (e:σ→R) (I:Nat→σ→Prop) (hb:a.length<1000000)
  (hS:∀ n (i:Nat) x s,a[i]?=some x→I i s→(match g i x s with | .inl r=>L (n+1) (i:Int) s=some r | .inr s'=>L (n+1) (i:Int) s=L n ((i+1:Nat):Int) s'∧I (i+1) s'))
  (hE:∀ n s,I a.length s→L (n+1) (a.length:Int) s=some (e s)) :
  ∀ (l p:List α) (n:Nat) (s:σ),a=p++l→l.length<n→I p.length s→L n (p.length:Int) s=some (run g e p.length l s):=by
 intro l
 induction l with
 | nil=>intro p n s hp hn hI; cases n with
  | zero=>omega
  | succ n =>
   have:a=p:=by simpa using hp
   subst this
   rw [hE n s hI]; rfl
 | cons x l ih=>intro p n s hp hn hI; cases n with
  | zero=>omega
  | succ n =>
   have hx:a[p.length]?=some x:=by rw [hp]; simp
   have:=hS n p.length x s hx hI
   unfold run
   cases hg:g p.length x s with
   | inl r=>rw [hg] at this; exact this
   | inr s' =>
    rw [hg] at this
    obtain ⟨h1,h2⟩:=this
    rw [h1]
    have e1:p.length+1=(p++[x]).length:=by simp
    rw [e1] at h2 ⊢
    exact ih (p++[x]) n s' (by rw [hp]; simp) (by simpa using hn) h2
theorem runLoop0 {α σ R:Type} {a:List α} {L:Nat→Int→σ→Option R} (g:Nat→α→σ→R ⊕ σ) (e:σ→R) (I:Nat→σ→Prop) {s0:σ} {F:Nat} (hb:a.length<1000000)
  (hS:∀ n (i:Nat) x s,a[i]?=some x→I i s→(match g i x s with | .inl r=>L (n+1) (i:Int) s=some r | .inr s'=>L (n+1) (i:Int) s=L n ((i+1:Nat):Int) s'∧I (i+1) s'))
  (hE:∀ n s,I a.length s→L (n+1) (a.length:Int) s=some (e s)) (hF:a.length<F) (h0:I 0 s0):L F 0 s0=some (run g e 0 a s0) :=
 runLoop g e I hb hS hE a [] F s0 rfl hF h0
def scan {α R:Type} (g:Nat→α→Option R) (e:R):Nat→List α→R
 | _,[]=>e
 | i,x :: l=>match g i x with | some r=>r | .none=>scan g e (i+1) l
theorem scanLoop {α R:Type} {a:List α} {L:Nat→Int→Option R} (g:Nat→α→Option R) (e:R) {F:Nat} (hb:a.length<1000000)
  (hS:∀ n (i:Nat) x,a[i]?=some x→i<1000000→L (n+1) (i:Int)=match g i x with | some r=>some r | .none=>L n ((i+1:Nat):Int))
  (hE:∀ n,L (n+1) (a.length:Int)=some e) (hF:a.length<F):L F 0=some (scan g e 0 a):=by
 have key:∀ (l p:List α) (n:Nat),a=p++l→l.length<n→L n (p.length:Int)=some (scan g e p.length l):=by
  intro l
  induction l with
  | nil=>intro p n hp hn; cases n with
   | zero=>omega
   | succ n =>
    have:a=p:=by simpa using hp
    subst this
    rw [hE n]; rfl
  | cons x l ih=>intro p n hp hn; cases n with
   | zero=>omega
   | succ n =>
    have hx:a[p.length]?=some x:=by rw [hp]; simp
    have hl:p.length<1000000:=by rw [hp] at hb; simp at hb; omega
    rw [hS n p.length x hx hl]
    unfold scan
    cases hg:g p.length x with
    | some r=>rfl
    | none =>
     simp only
     have e1:p.length+1=(p++[x]).length:=by simp
     rw [e1]
     exact ih (p++[x]) n (by rw [hp]; simp) (by simpa using hn)
 exact key a [] F rfl hF
theorem scan_all {α:Type} (f:α→Bool):∀ (l:List α) (i:Nat),scan (fun _ x=>if f x=true then .none else some false) true i l=l.all f
 | [],i=>rfl
 | x :: l,i=>by
  unfold scan
  rw [List.all_cons]
  cases hf:f x with
  | true=>simp [scan_all f l]
  | false=>simp
theorem allLoop {α:Type} {a:List α} {L:Nat→Int→Option Bool} (f:α→Bool) {F:Nat} (hb:a.length<1000000)
  (hS:∀ n (i:Nat) x,a[i]?=some x→i<1000000→L (n+1) (i:Int)=if f x=true then L n ((i+1:Nat):Int) else some false)
  (hE:∀ n,L (n+1) (a.length:Int)=some true) (hF:a.length<F):L F 0=some (a.all f):=by
 rw [scanLoop (fun _ x=>if f x=true then .none else some false) true hb (fun n i x hx hi=>?_) hE hF,scan_all]
 rw [hS n i x hx hi]
 cases f x <;> rfl
theorem scan_eq {α:Type} [DecidableEq α]:∀ (l m p:List α),l.length=m.length→scan (fun i x=>if (p++m)[i]?=some x then .none else some false) true p.length l=decide (l=m)
 | [],[],p,_=>rfl
 | x :: l,y :: m,p,h=>by
  unfold scan
  have e:(p++y :: m)[p.length]?=some y:=by simp
  rw [e]
  by_cases hxy:x=y
  ·subst hxy
   simp only [if_true,List.cons.injEq,true_and]
   have:=scan_eq l m (p++[x]) (by simpa using h)
   simpa using this
  ·have:¬ (some y=some x):=fun hh=>hxy (Option.some.inj hh).symm
   simp [this,hxy]
theorem scan_eqE {α:Type} [DecidableEq α]:∀ (l m p:List α) (e:Bool),l.length=m.length→scan (fun i x=>if (p++m)[i]?=some x then .none else some false) e p.length l=(decide (l=m) && e)
 | [],[],p,e,_=>by simp [scan]
 | x :: l,y :: m,p,e,h=>by
  unfold scan
  have e1:(p++y :: m)[p.length]?=some y:=by simp
  rw [e1]
  by_cases hxy:x=y
  ·subst hxy
   simp only [if_true,List.cons.injEq,true_and]
   have:=scan_eqE l m (p++[x]) e (by simpa using h)
   simpa using this
  ·have:¬ (some y=some x):=fun hh=>hxy (Option.some.inj hh).symm
   simp [this,hxy]
theorem eqLoop {α:Type} [DecidableEq α] {a b:List α} {L:Nat→Int→Option Bool} {F:Nat} (hl:a.length=b.length) (hb:a.length<1000000)
  (hS:∀ n (i:Nat) x y,a[i]?=some x→b[i]?=some y→i<1000000→L (n+1) (i:Int)=if x=y then L n ((i+1:Nat):Int) else some false)
  (hE:∀ n,L (n+1) (a.length:Int)=some true) (hF:a.length<F):L F 0=some (decide (a=b)):=by
 rw [scanLoop (fun i x=>if b[i]?=some x then .none else some false) true hb (fun n i x hx hi=>?_) hE hF]
 ·exact congrArg some (scan_eq a b [] hl)
 ·have hi':i<b.length:=by rw [← hl]; exact (List.getElem?_eq_some_iff.1 hx).1
  rw [hS n i x b[i] hx (by simp [hi']) hi]
  by_cases h:x=b[i]
  ·simp [h,hi']
  ·have:¬ (b[i]?=some x):=fun hh=>by rw [List.getElem?_eq_getElem hi'] at hh; exact h (Option.some.inj hh).symm
   simp [h,this]
theorem dltN {α:Type} {a:List α} {i:Nat} {x:α} (h:a[i]?=some x):decide ((i:Int)<(a.length:Int))=true:=by
 have:=(List.getElem?_eq_some_iff.1 h).1; simp; omega
theorem dgeN (n:Nat):decide ((n:Int)<(n:Int))=false:=by simp
theorem idxN {α:Type} {a:List α} {i:Nat} {x:α} (h:a[i]?=some x):idx a (i:Int)=some x:=by rw [idx_nat,h]
theorem nxtI {i:Nat} (h:i<1000000):i64 ((i:Int)+1)=((i+1:Nat):Int):=by rw [i64_of (by omega) (by omega)]; rfl
theorem scan_true {α:Type} {f:Nat→α→Bool} {e:Bool}:∀ (l:List α) (i:Nat),(scan (fun i x=>if f i x=true then .none else some false) e i l=true ↔ e=true∧∀ (j:Nat) x,l[j]?=some x→f (i+j) x=true)
 | [],i=>by simp [scan]
 | x :: l,i=>by
  unfold scan
  cases hf:f i x with
  | false =>
   simp only [Bool.false_eq_true,if_false]
   constructor
   ·intro h; cases h
   ·rintro ⟨_,h⟩; have:=h 0 x rfl; rw [Nat.add_zero,hf] at this; cases this
  | true =>
   simp only [if_true]
   rw [scan_true l (i+1)]
   constructor
   ·rintro ⟨h1,h2⟩
    refine ⟨h1,fun j y hy=>?_⟩
    cases j with
    | zero=>simp at hy; subst hy; exact hf
    | succ j=>have:=h2 j y (by simpa using hy); rw [← this]; congr 1; omega
   ·rintro ⟨h1,h2⟩
    refine ⟨h1,fun j y hy=>?_⟩
    have:=h2 (j+1) y (by simpa using hy)
    rw [← this]; congr 1; omega
def scanO {α R:Type} (g:Nat→α→Option R) (e:Option R):Nat→List α→Option R
 | _,[]=>e
 | i,x :: l=>match g i x with | some r=>some r | .none=>scanO g e (i+1) l
theorem scanLoopO {α R:Type} {a:List α} {L:Nat→Int→Option R} (g:Nat→α→Option R) (e:Option R) {F:Nat} (hb:a.length<1000000)
  (hS:∀ n (i:Nat) x,a[i]?=some x→i<1000000→L (n+1) (i:Int)=match g i x with | some r=>some r | .none=>L n ((i+1:Nat):Int))
  (hE:∀ n,L (n+1) (a.length:Int)=e) (hF:a.length<F):L F 0=scanO g e 0 a:=by
 have key:∀ (l p:List α) (n:Nat),a=p++l→l.length<n→L n (p.length:Int)=scanO g e p.length l:=by
  intro l
  induction l with
  | nil=>intro p n hp hn; cases n with
   | zero=>omega
   | succ n =>
    have:a=p:=by simpa using hp
    subst this
    rw [hE n]; rfl
  | cons x l ih=>intro p n hp hn; cases n with
   | zero=>omega
   | succ n =>
    have hx:a[p.length]?=some x:=by rw [hp]; simp
    have hl:p.length<1000000:=by rw [hp] at hb; simp at hb; omega
    rw [hS n p.length x hx hl]
    unfold scanO
    cases hg:g p.length x with
    | some r=>rfl
    | none =>
     simp only
     have e1:p.length+1=(p++[x]).length:=by simp
     rw [e1]
     exact ih (p++[x]) n (by rw [hp]; simp) (by simpa using hn)
 exact key a [] F rfl hF
def allI {α:Type} (f:Nat→α→Bool) (i:Nat) (l:List α):Bool:=scan (fun i x=>if f i x=true then .none else some false) true i l
theorem scanO_if {α R:Type} (f:Nat→α→Bool) (c:R) (e:Option R):∀ (l:List α) (i:Nat),scanO (fun i x=>if f i x=true then .none else some c) e i l=if allI f i l=true then e else some c
 | [],i=>rfl
 | x :: l,i=>by
  unfold scanO allI scan
  cases hf:f i x with
  | true=>simp only [if_true]; exact scanO_if f c e l (i+1)
  | false=>simp
theorem allI_all {α:Type} (f:α→Bool) (l:List α) (i:Nat):allI (fun _ x=>f x) i l=l.all f:=scan_all f l i
theorem scan_and {α:Type} (f:Nat→α→Bool) (e:Bool):∀ (l:List α) (i:Nat),scan (fun i x=>if f i x=true then .none else some false) e i l=(allI f i l && e)
 | [],i=>by simp [scan,allI]
 | x :: l,i=>by
  unfold allI scan
  cases hf:f i x with
  | true=>simp only [if_true]; exact scan_and f e l (i+1)
  | false=>simp
theorem bEq {a b:Bool} (h:a=true ↔ b=true):a=b:=by cases a <;> cases b <;> simp_all
end Go.Sh
set_option linter.unusedVariables false
set_option linter.unusedSimpArgs false
namespace Go.Sh
open Go.L

def ShI (F:Nat) (x:GItem):Prop:=(x.Parts.length<1000000∧x.Parts.length<F)∧(x.Enemies.length<1000000∧x.Enemies.length<F)
def Short (F:Nat) (l:List Gq0):Prop:=∀ e ∈ l,ShI F e.Item
theorem equal_s {F:Nat} {a b:List Int} (hb:a.length<1000000) (hF:a.length<F):q21q F a b=some (decide (a=b)):=by
 unfold q21q
 by_cases h:a.length=b.length
 ·have h1:((a.length:Int) != (b.length:Int))=false:=by simp [h]
  simp only [h1,Bool.false_eq_true,if_false]
  refine eqLoop h hb (fun n i x y hx hy hi=>?_) (fun n=>?_) hF
  ·simp only [q11q,q15q,dltN hx,if_true,idxN hx,idxN hy,Option.bind_some,nxtI hi]
   by_cases hxy:x=y <;> simp [hxy]
  ·simp only [q11q,q15q,dgeN,Bool.false_eq_true,if_false]
 ·have h1:((a.length:Int) != (b.length:Int))=true:=by simp; omega
  have h2:a ≠ b:=fun hab=>h (by rw [hab])
  simp [h1,h2]
theorem equalP_s {F:Nat} {a b:List GPart} (hb:a.length<1000000) (hF:a.length<F):q39q F a b=some (decide (a=b)):=by
 unfold q39q
 by_cases h:a.length=b.length
 ·have h1:((a.length:Int) != (b.length:Int))=false:=by simp [h]
  simp only [h1,Bool.false_eq_true,if_false]
  refine eqLoop h hb (fun n i x y hx hy hi=>?_) (fun n=>?_) hF
  ·simp only [q14q,q20q,dltN hx,if_true,idxN hx,idxN hy,Option.bind_some,nxtI hi]
   by_cases hxy:x=y <;> simp [hxy]
  ·simp only [q14q,q20q,dgeN,Bool.false_eq_true,if_false]
 ·have h1:((a.length:Int) != (b.length:Int))=true:=by simp; omega
  have h2:a ≠ b:=fun hab=>h (by rw [hab])
  simp [h1,h2]
theorem ints_eq {F:Nat} {a b:List Int}:q161q F a b=q21q F a b:=by
 have h:∀ n,q114q a b n=q11q a b n:=fun n=>by
  induction n with
  | zero=>rfl
  | succ n ih=>show q150q a b (q114q a b n)=q15q a b (q11q a b n); rw [ih]; rfl
 unfold q161q q21q; rw [h]
theorem ints_s {F:Nat} {a b:List Int} (hb:a.length<1000000) (hF:a.length<F):q161q F a b=some (decide (a=b)):=by rw [ints_eq]; exact equal_s hb hF
theorem material_s {F:Nat} {a b:GItem} (hl:a.Parts.length=b.Parts.length) (hb:a.Parts.length<1000000) (hF:a.Parts.length<F):∃ r,q162q F a b=some r∧(r=[] ↔ a.Parts=b.Parts):=by
 have key : ∀ (j n i : Nat) (r : List Int), i + j = a.Parts.length → j < n → r.length ≤ i → ∃ q, q32q a b n (i : Int) r = some q ∧ (q = [] ↔ r = [] ∧ a.Parts.drop i = b.Parts.drop i) := by
  intro j
  induction j with
  | zero=>intro n i r hi hn hr; cases n with
   | zero=>omega
   | succ n =>
    have hm:max (a.Parts.length:Int) (b.Parts.length:Int)=(i:Int):=by rw [← hl]; omega
    simp only [q32q,q72q,hm,dgeN,Bool.false_eq_true,if_false]
    refine ⟨r,rfl,?_⟩
    rw [List.drop_of_length_le (by omega),List.drop_of_length_le (by omega)]
    simp
  | succ j ih=>intro n i r hi hn hr; cases n with
   | zero=>omega
   | succ n =>
    have hm:decide ((i:Int)<max (a.Parts.length:Int) (b.Parts.length:Int))=true:=by simp; omega
    have h1:decide ((i:Int) ≥ (a.Parts.length:Int))=false:=by simp; omega
    have h2:decide ((i:Int) ≥ (b.Parts.length:Int))=false:=by simp; omega
    have i1:i<a.Parts.length:=by omega
    have i2:i<b.Parts.length:=by omega
    simp only [q32q,q72q,hm,h1,h2,if_true,Bool.false_eq_true,if_false,idx_lt i1,idx_lt i2,Option.bind_some,nxtI (show i<1000000 by omega)]
    rw [List.drop_eq_getElem_cons i1,List.drop_eq_getElem_cons i2]
    by_cases hxy:a.Parts[i]=b.Parts[i]
    ·obtain ⟨q,q1,q2⟩:=ih n (i+1) r (by omega) (by omega) (by omega)
     refine ⟨q,?_,?_⟩
     ·simp only [hxy,decide_true,Bool.not_true,Bool.false_eq_true,if_false]; exact q1
     ·rw [q2,hxy]; simp only [List.cons.injEq,true_and]
    ·obtain ⟨q,q1,q2⟩:=ih n (i+1) (r++[(i:Int)]) (by omega) (by omega) (by simp; omega)
     refine ⟨q,?_,?_⟩
     ·simp only [hxy,decide_false,Bool.not_false,if_true]
      rw [app_of (by simp; omega),Option.bind_some]; exact q1
     ·rw [q2]; simp only [List.cons.injEq,hxy,false_and,and_false,List.append_eq_nil_iff,reduceCtorEq]
 obtain ⟨q,q1,q2⟩:=key a.Parts.length F 0 [] (by omega) hF (by simp)
 exact ⟨q,q1,by rw [q2]; simp⟩
theorem sameItem_s {F:Nat} {a b:GItem} (h:ShI F a):q143q F a b=some (decide (a=b)):=by
 unfold q143q
 rw [equalP_s h.1.1 h.1.2,equal_s h.2.1 h.2.2]
 obtain ⟨i,v,s,p,e⟩:=a
 obtain ⟨i',v',s',p',e'⟩:=b
 simp only [GItem.mk.injEq,decide_eq_true_eq,beq_iff_eq,Option.bind_some]
 by_cases h1:i=i'
 ·by_cases h2:v=v'
  ·by_cases h3:s=s'
   ·by_cases h4:p=p'
    ·simp [h1,h2,h3,h4]
    ·simp [h4]
   ·simp [h3]
  ·simp [h2]
 ·simp [h1]
theorem rsameItem_s {F:Nat} {a b:GItem} (h:ShI F a):q163q F a b=some (decide (a=b)):=by
 unfold q163q
 rw [ints_s h.2.1 h.2.2]
 by_cases hl:a.Parts.length=b.Parts.length
 ·obtain ⟨r,r1,r2⟩:=material_s hl h.1.1 h.1.2
  have hl':((a.Parts.length:Int) == (b.Parts.length:Int))=true:=by simp [hl]
  have hr:((r.length:Int) == 0)=decide (a.Parts=b.Parts):=by
   rw [Bool.eq_iff_iff,beq_iff_eq,decide_eq_true_eq,← r2]
   constructor
   ·intro h; exact List.eq_nil_of_length_eq_zero (by omega)
   ·intro h; rw [h]; rfl
  rw [r1]
  simp only [hl',if_true,Option.bind_some,hr]
  obtain ⟨i,v,s,p,e⟩:=a
  obtain ⟨i',v',s',p',e'⟩:=b
  simp only [GItem.mk.injEq,decide_eq_true_eq,beq_iff_eq,Option.bind_some]
  by_cases h1:i=i'
  ·by_cases h2:v=v'
   ·by_cases h3:s=s'
    ·by_cases h4:p=p'
     ·simp [h1,h2,h3,h4]
     ·simp [h4]
    ·simp [h3]
   ·simp [h2]
  ·simp [h1]
 ·have hl':((a.Parts.length:Int) == (b.Parts.length:Int))=false:=by simp; omega
  have hne:a ≠ b:=fun hab=>hl (by rw [hab])
  simp only [hl',Bool.false_eq_true,if_false,hne,decide_false]
  repeat' split
  all_goals rfl
theorem same_s {F:Nat} {a b:Gq0} (h:ShI F a.Item):bank_Same F a b=some (decide (a=b)):=by
 unfold bank_Same
 rw [sameItem_s h]
 obtain ⟨s,k,g,r,f⟩:=a
 obtain ⟨s',k',g',r',f'⟩:=b
 simp only [Gq0.mk.injEq,decide_eq_true_eq,beq_iff_eq,Option.bind_some]
 by_cases h1:s=s'
 ·by_cases h2:k=k'
  ·by_cases h3:r=r'
   ·by_cases h4:f=f'
    ·simp [h1,h2,h3,h4]
    ·simp [h4]
   ·simp [h3]
  ·simp [h2]
 ·simp [h1]
theorem rsame_s {F:Nat} {a b:Gq0} (h:ShI F a.Item):q178q F a b=some (decide (a=b)):=by
 rw [← same_s h]; unfold q178q bank_Same; rw [rsameItem_s h,sameItem_s h]
theorem cloneItem_s {F:Nat} {x:GItem} (h:ShI F x):q74q x=some x:=by
 unfold q74q
 rw [app_of (by simp; have:=h.1.1; omega),Option.bind_some,app_of (by simp; have:=h.2.1; omega)]
 rfl
theorem mget_mput {α β:Type} [DecidableEq α] (k k':α) (v:β):∀ m:List (α × β),mget (mput m k v) k'=if k'=k then some v else mget m k'
  | [] => by simp only [mput, mget]; by_cases h : k = k'
             · simp [h]
             · simp [h,Ne.symm h]
  | (a,b) :: r=>by
    simp only [mput]
    by_cases h:a=k
    · subst h
      simp only [if_true,mget]
      by_cases h2:a=k'
      · simp [h2]
      · simp [h2,Ne.symm h2]
    · simp only [h,if_false,mget,mget_mput k k' v r]
      by_cases h2:a=k'
      · subst h2; simp [h]
      · simp [h2]
theorem nxtN {i:Nat} (h:i<1000000000):i64 ((i:Int)+1)=((i+1:Nat):Int):=by rw [i64_of (by omega) (by omega)]; rfl
theorem idx_mid {α:Type} {p:List α} {x:α} {s:List α} {n:Nat} (h:p.length=n):idx (p++x :: s) (n:Int)=some x:=by rw [← h]; exact idx_at p x s
theorem set_mid {α:Type} {p:List α} {x y:α} {s:List α} {n:Nat} (h:p.length=n):(p++x :: s).set (n:Int).toNat y=p++y :: s:=by
 simp [← h]
theorem split_loop {F0:List Gq0} {p1:Gq0→Option Gq4} {p2:Gq0→Gq0→Option Bool} (hb:F0.length<1000000) (h1:∀ a ∈ F0,p1 a=some a.Stamp) (h2:∀ a ∈ F0,∀ b ∈ F0,p2 a b=some (decide (a=b))) (z:Gq4) :
  ∀ (s p:List Gq0) (n:Nat) (m:List (Gq4 × Int)),F0=p++s→s.length<n→(∀ x,mget m x=(p.findIdx? fun y=>decide (y.Stamp=x)).map Int.ofNat) →
   q12q F0 p1 p2 n (p.length:Int) (p.map (·.Stamp)++List.replicate s.length z) (p.map (fun x=>if F0.find? (fun y=>decide (y.Stamp=x.Stamp))=some x then 0 else 1)++List.replicate s.length 0) m
    = some (F0.map (·.Stamp),clsP (·.Stamp) F0):=by
 intro s
 induction s with
 | nil =>
  intro p n m hp hn hm
  cases n with
  | zero=>omega
  | succ n =>
   have:F0=p:=by simpa using hp
   subst this
   simp only [q12q,q18q,Int.lt_irrefl,decide_false,Bool.false_eq_true,if_false,List.length_nil,List.replicate_zero,List.append_nil,clsP]
 | cons x s ih =>
  intro p n m hp hn hm
  cases n with
  | zero=>omega
  | succ n =>
   have hx:x ∈ F0:=by rw [hp]; simp
   have hlen:p.length<1000000:=by rw [hp] at hb; simp at hb; omega
   have d1:decide ((p.length:Int)<(F0.length:Int))=true:=by rw [hp]; exact dlt p x s
   have i1:idx F0 (p.length:Int)=some x:=by rw [hp]; exact idx_at p x s
   simp only [q12q,q18q,d1,if_true,i1,Option.bind_some,h1 x hx,List.length_cons,List.replicate_succ]
   rw [idx_mid (by simp),set_mid (by simp),idx_mid (by simp)]
   simp only [Option.bind_some,nxtN (show p.length<1000000000 by omega),hm]
   have hlen':((p.length+1:Nat):Int)=((p++[x]).length:Int):=by simp
   have hst:p.map (·.Stamp)++x.Stamp :: List.replicate s.length z=(p++[x]).map (·.Stamp)++List.replicate s.length z:=by simp
   have hF:F0=(p++[x])++s:=by rw [hp]; simp
   have hfx:∀ q:Gq0→Bool,F0.find? q=((p.find? q).or (if q x then some x else s.find? q)):=fun q=>by
    rw [hp,List.find?_append,List.find?_cons]
    cases q x <;> simp
   cases hj:p.findIdx? (fun y=>decide (y.Stamp=x.Stamp)) with
   | none =>
    simp only [Option.map_none,Option.isSome_none,Bool.not_false,if_true]
    have hpn:p.find? (fun y=>decide (y.Stamp=x.Stamp))=.none:=by
     rw [List.findIdx?_eq_none_iff] at hj
     rw [List.find?_eq_none]; intro y hy; simpa using hj y hy
    have hc:F0.find? (fun y=>decide (y.Stamp=x.Stamp))=some x:=by rw [hfx,hpn]; simp
    have hcl:p.map (fun x=>if F0.find? (fun y=>decide (y.Stamp=x.Stamp))=some x then (0:Int) else 1)++0 :: List.replicate s.length 0=(p++[x]).map (fun x=>if F0.find? (fun y=>decide (y.Stamp=x.Stamp))=some x then (0:Int) else 1)++List.replicate s.length 0:=by
     simp [hc]
    rw [hcl,hst,hlen']
    refine ih (p++[x]) n _ hF (by simpa using hn) fun y=>?_
    rw [mget_mput,hm,List.findIdx?_append]
    by_cases hyx:y=x.Stamp
    ·subst hyx; simp [hj,List.findIdx?_cons]
    ·rw [if_neg hyx]
     cases p.findIdx? (fun z=>decide (z.Stamp=y)) with
     | none=>simp [List.findIdx?_cons,Ne.symm hyx]
     | some j=>simp
   | some j =>
    rw [List.findIdx?_eq_some_iff_getElem] at hj
    obtain ⟨hjl,hj1,hj2⟩:=hj
    simp only [decide_eq_true_eq] at hj1
    have hpf:p.find? (fun y=>decide (y.Stamp=x.Stamp))=some p[j]:=by
     rw [List.find?_eq_some_iff_getElem]
     exact ⟨by simpa using hj1,j,hjl,rfl,fun k hk=>by simpa using hj2 k hk⟩
    have hfj:idx F0 (j:Int)=some p[j]:=by
     rw [idx_nat,hp,List.getElem?_append_left hjl]; simp [hjl]
    have hpj:p[j] ∈ F0:=by rw [hp]; simp
    have hc:F0.find? (fun y=>decide (y.Stamp=x.Stamp))=some p[j]:=by rw [hfx,hpf]; simp
    simp only [Option.map_some,Option.isSome_some,Bool.not_true,Bool.false_eq_true,if_false,Option.getD_some]
    have hm':∀ y,mget m y=((p++[x]).findIdx? fun z=>decide (z.Stamp=y)).map Int.ofNat:=fun y=>by
     rw [hm,List.findIdx?_append]
     cases hq:p.findIdx? (fun z=>decide (z.Stamp=y)) with
     | some j=>simp
     | none =>
      have:¬ x.Stamp=y:=fun hxy=>by
       subst hxy
       rw [List.findIdx?_eq_none_iff] at hq
       have:=hq p[j] (by simp)
       simp [hj1] at this
      simp [List.findIdx?_cons,this]
    show (idx F0 ((j:Nat):Int)).bind _=_
    rw [hfj]
    simp only [Option.bind_some,h2 _ hpj _ hx]
    by_cases he:p[j]=x
    ·have hcl:p.map (fun x=>if F0.find? (fun y=>decide (y.Stamp=x.Stamp))=some x then (0:Int) else 1)++0 :: List.replicate s.length 0=(p++[x]).map (fun x=>if F0.find? (fun y=>decide (y.Stamp=x.Stamp))=some x then (0:Int) else 1)++List.replicate s.length 0:=by
      simp [hc,he]
     simp only [he,decide_true,Bool.not_true,Bool.false_eq_true,if_false]
     rw [hcl,hst,hlen']
     exact ih (p++[x]) n _ hF (by simpa using hn) hm'
    ·have hcl:p.map (fun x=>if F0.find? (fun y=>decide (y.Stamp=x.Stamp))=some x then (0:Int) else 1)++1 :: List.replicate s.length 0=(p++[x]).map (fun x=>if F0.find? (fun y=>decide (y.Stamp=x.Stamp))=some x then (0:Int) else 1)++List.replicate s.length 0:=by
      simp [hc,he]
     simp only [he,decide_false,Bool.not_false,if_true]
     rw [idx_mid (by simp),set_mid (by simp)]
     simp only [Option.bind_some]
     rw [hcl,hst,hlen']
     exact ih (p++[x]) n _ hF (by simpa using hn) hm'
theorem split_s {F:Nat} {l:List Gq0} {p1:Gq0→Option Gq4} {p2:Gq0→Gq0→Option Bool} (hb:l.length<1000000) (hF:l.length<F) (h1:∀ a ∈ l,p1 a=some a.Stamp) (h2:∀ a ∈ l,∀ b ∈ l,p2 a b=some (decide (a=b))) :
  q37q F l p1 p2=some (l.map (·.Stamp),clsP (·.Stamp) l):=by
 unfold q37q
 rw [mkl_of (by omega),Option.bind_some,mkl_of (by omega),Option.bind_some]
 exact split_loop hb h1 h2 _ l [] F [] rfl hF fun x=>by simp [mget]
theorem copiesCanonical_s {F:Nat} (h10:10≤F) {l:List Gq0} {p1:Gq0→Option Gq4} {p2:Gq0→Gq0→Option Bool} (hb:l.length<1000000) (hF:l.length<F) (h1:∀ a ∈ l,p1 a=some a.Stamp) (h2:∀ a ∈ l,∀ b ∈ l,p2 a b=some (decide (a=b))) :
  q22q F l p1 p2=some (canonS (l.map (·.Stamp)) (clsP (·.Stamp) l)):=by
 unfold q22q
 rw [split_s hb hF h1 h2]
 simp only [Option.bind_some]
 rw [canonical_e h10 (by simpa using hb) (by simpa using hF)]
 rfl
theorem fill_loop {l:List Gq0} {a:List Int} {c:Int} {F:Nat} (hc:Short F l) (ha:∀ i ∈ a,0≤i∧i.toNat<l.length) (hb:a.length<1000000) (z:Gq0):∀ (s p:List Int) (n:Nat),a=p++s→s.length<n →
  q30q l (a,c) n (p.length:Int) (pickL l p++List.replicate s.length z)=some (pickL l a,0):=by
 intro s
 induction s with
 | nil =>
  intro p n hp hn
  cases n with
  | zero=>omega
  | succ n =>
   have:a=p:=by simpa using hp
   subst this
   simp only [q30q,q69q,Int.lt_irrefl,decide_false,Bool.false_eq_true,if_false,List.length_nil,List.replicate_zero,List.append_nil]
 | cons x s ih =>
  intro p n hp hn
  cases n with
  | zero=>omega
  | succ n =>
   have hx:=ha x (by rw [hp]; simp)
   have hpl:(pickL l p).length=p.length:=pickL_len fun i hi=>(ha i (by rw [hp]; simp [hi])).2
   have hlen:p.length<1000000:=by rw [hp] at hb; simp at hb; omega
   have d1:decide ((p.length:Int)<(a.length:Int))=true:=by rw [hp]; exact dlt p x s
   have i1:idx a (p.length:Int)=some x:=by rw [hp]; exact idx_at p x s
   have i2:idx l x=some l[x.toNat]:=by rw [idx_some]; exact ⟨hx.1,by simp [hx.2]⟩
   simp only [q30q,q69q,d1,if_true,i1,i2,Option.bind_some,List.length_cons,List.replicate_succ]
   have hcl:=hc l[x.toNat] (List.getElem_mem hx.2)
   rw [idx_mid hpl,Option.bind_some,cloneItem_s hcl,Option.bind_some,set_mid hpl,idx_mid hpl,Option.bind_some,set_mid hpl]
   simp only [nxtN (show p.length<1000000000 by omega)]
   have e1:pickL l p++l[x.toNat] :: List.replicate s.length z=pickL l (p++[x])++List.replicate s.length z:=by simp [pickL,hx.2]
   have e2:((p.length+1:Nat):Int)=((p++[x]).length:Int):=by simp
   rw [e1,e2]
   exact ih (p++[x]) n (by simp [hp]) (by simpa using hn)
theorem canonicalP_s {F:Nat} (h10:10≤F) {l:List Gq0} (hc:Short F l) (hb:l.length<1000000) (hF:l.length<F):q131q F l=some (canonEv (·.Stamp) l):=by
 unfold q131q
 rw [copiesCanonical_s (p1:=fun a0=>q138q a0) (p2:=fun a0 a1=>bank_Same F a0 a1) h10 hb hF (fun a _=>rfl) (fun a ha b _=>same_s (hc a ha))]
 rw [canonS_ev (clsP_ok _ _)]
 simp only [Option.bind_some,canonEv]
 by_cases h:300<(evL (·.Stamp) l).length
 ·simp [h]
 ·have hlen:=canonL_len (l.map (·.Stamp)) (clsP (·.Stamp) l)
  rw [List.length_map] at hlen
  simp only [h,if_false,bne_self_eq_false,Bool.false_eq_true]
  rw [mkl_of (by omega)]
  simp only [Option.bind_some]
  rw [← evL_of (clsP_ok (·.Stamp) l)]
  refine fill_loop hc (fun i hi=>?_) (by omega) _ _ [] F rfl (Nat.lt_of_le_of_lt hlen hF)
  have:=canonL_lt hi
  exact ⟨this.1,by simpa using this.2⟩
theorem back_loop {F:Nat} {l:List Gq0} (hc:Short F l) {i:Nat} (hi:i<l.length) (hb:l.length<1000000) (rec1:Int→List Gq4→List Int→Option (List Gq0 × Int)) (l2:List Gq4) (l3:List Int) (h2:l2.length<1000000) (h3:l3.length<1000000) :
  ∀ (k n:Nat),k≤i→k<n→q27q rec1 F l i l2 l3 n ((k:Int)+((l.drop k).findIdx fun y=>decide (y=l[i]):Nat)) ((k:Int) - 1)=rec1 ((i+1:Nat):Int) (l2++[l[i].Stamp]) (l3++[((l.findIdx fun y=>decide (y=l[i]):Nat):Int)]):=by
 intro k
 induction k with
 | zero =>
  intro n hk hn
  cases n with
  | zero=>omega
  | succ n =>
   have d:decide (((0:Nat):Int) - 1 ≥ 0)=false:=by simp
   simp only [q27q,q60q,d,Bool.false_eq_true,if_false,idx_lt hi,Option.bind_some]
   rw [app_of (by simp; omega),Option.bind_some,app_of (by simp; omega),Option.bind_some,nxtN (by omega)]
   simp
 | succ k ih =>
  intro n hk hn
  cases n with
  | zero=>omega
  | succ n =>
   have d:decide (((k+1:Nat):Int) - 1 ≥ 0)=true:=by simp
   have e:((k+1:Nat):Int) - 1=(k:Int):=by omega
   have hkl:k<l.length:=by omega
   simp only [q27q,q60q,d,if_true]
   rw [e]
   simp only [idx_lt hi,idx_lt hkl,Option.bind_some]
   rw [rsame_s (hc l[i] (List.getElem_mem hi))]
   simp only [Option.bind_some]
   rw [i64_of (by omega) (by omega)]
   have hd:l.drop k=l[k] :: l.drop (k+1):=(List.drop_eq_getElem_cons hkl)
   have:=ih n (by omega) (by omega)
   rw [hd,List.findIdx_cons] at this
   by_cases h:l[i]=l[k]
   ·simp only [h,decide_true,if_true]
    simp only [h,decide_true,cond_true,Int.ofNat_zero,Int.add_zero] at this
    exact this
   ·simp only [h,decide_false,Bool.false_eq_true,if_false]
    simp only [Ne.symm h,decide_false,cond_false] at this
    rw [← this]
    congr 1
    omega
theorem pick_loop {l:List Gq0} {a:List Int} {c:Int} (ha:∀ i ∈ a,0≤i∧i.toNat<l.length) (hb:a.length<1000000):∀ (s p:List Int) (n:Nat),a=p++s→s.length<n →
  q28q l (a,c) n (p.length:Int) (pickL l p)=some (pickL l a,0):=by
 intro s
 induction s with
 | nil =>
  intro p n hp hn
  cases n with
  | zero=>omega
  | succ n =>
   have:a=p:=by simpa using hp
   subst this
   simp only [q28q,q61q,Int.lt_irrefl,decide_false,Bool.false_eq_true,if_false]
 | cons x s ih =>
  intro p n hp hn
  cases n with
  | zero=>omega
  | succ n =>
   have hx:=ha x (by rw [hp]; simp)
   have hpl:(pickL l p).length=p.length:=pickL_len fun i hi=>(ha i (by rw [hp]; simp [hi])).2
   have hlen:p.length<1000000:=by rw [hp] at hb; simp at hb; omega
   have d1:decide ((p.length:Int)<(a.length:Int))=true:=by rw [hp]; exact dlt p x s
   have i1:idx a (p.length:Int)=some x:=by rw [hp]; exact idx_at p x s
   have i2:idx l x=some l[x.toNat]:=by rw [idx_some]; exact ⟨hx.1,by simp [hx.2]⟩
   simp only [q28q,q61q,d1,if_true,i1,i2,Option.bind_some]
   rw [app_of (by simp; omega)]
   simp only [Option.bind_some,nxtN (show p.length<1000000000 by omega)]
   have e1:pickL l p++[l[x.toNat]]=pickL l (p++[x]):=by simp [pickL,hx.2]
   have e2:((p.length+1:Nat):Int)=((p++[x]).length:Int):=by simp
   rw [e1,e2]
   exact ih (p++[x]) n (by simp [hp]) (by simpa using hn)
theorem canonicalR_loop {F:Nat} {l:List Gq0} (hc:Short F l) (hb:l.length<1000000) (hF:l.length<F):∀ (j n i:Nat),i+j=l.length→j<n →
  q19q F l n (i:Int) ((l.take i).map (·.Stamp)) ((clsR l).take i)=some (canonEv (·.Stamp) l):=by
 intro j
 induction j with
 | zero =>
  intro n i hij hn
  cases n with
  | zero=>omega
  | succ n =>
   have hi:i=l.length:=by omega
   subst hi
   have hc:(clsR l).take l.length=clsR l:=List.take_of_length_le (by simp [clsR])
   simp only [q19q,q59q,Int.lt_irrefl,decide_false,Bool.false_eq_true,if_false,List.take_length,hc]
   rw [refCanonical_e (by simpa using hb) (by simpa using hF),canonS_ev (clsR_ok _ _)]
   simp only [Option.bind_some,canonEv]
   by_cases h:300<(evL (·.Stamp) l).length
   ·simp [h]
   ·have hlen:=canonL_len (l.map (·.Stamp)) (clsR l)
    rw [List.length_map] at hlen
    simp only [h,if_false,bne_self_eq_false,Bool.false_eq_true]
    refine pick_loop (fun i hi=>?_) (by omega) _ [] F rfl (Nat.lt_of_le_of_lt hlen hF)
    have:=canonL_lt hi
    exact ⟨this.1,by simpa using this.2⟩
 | succ j ih =>
  intro n i hij hn
  cases n with
  | zero=>omega
  | succ n =>
   have hi:i<l.length:=by omega
   have d1:decide ((i:Int)<(l.length:Int))=true:=by simp; omega
   simp only [q19q,q59q,d1,if_true]
   have hbk:=back_loop hc hi hb (q19q F l n) ((l.take i).map (·.Stamp)) ((clsR l).take i) (by simp; omega) (by simp [clsR]; omega) i F (by omega) (by omega)
   have h0:(l.drop i).findIdx (fun y=>decide (y=l[i]))=0:=by rw [List.drop_eq_getElem_cons hi,List.findIdx_cons]; simp
   rw [h0] at hbk
   simp only [Int.ofNat_zero,Int.add_zero] at hbk
   rw [i64_of (by omega) (by omega),hbk]
   have e1:(l.take i).map (·.Stamp)++[l[i].Stamp]=(l.take (i+1)).map (·.Stamp):=by
    rw [List.take_add_one,List.map_append]; simp [hi,-List.map_take]
   have e2:(clsR l).take i++[((l.findIdx fun y=>decide (y=l[i]):Nat):Int)]=(clsR l).take (i+1):=by rw [List.take_add_one]; simp [clsR,hi]
   rw [e1,e2]
   exact ih n (i+1) (by omega) (by omega)
theorem canonicalR_s {F:Nat} {l:List Gq0} (hc:Short F l) (hb:l.length<1000000) (hF:l.length<F):q151q F l=some (canonEv (·.Stamp) l) :=
 canonicalR_loop hc hb hF l.length F 0 (by omega) hF
end Go.Sh
set_option linter.unusedVariables false
set_option linter.unusedSimpArgs false
namespace Go.Sh
open Go.L

theorem sOr (a b:Bool):(if a=true then some true else some b)=some (a || b):=by cases a <;> rfl
theorem beqD (a b:Int):(a == b)=decide (a=b):=by rw [Bool.eq_iff_iff]; simp
def prtS (s:ByteArray):Bool:=s.data.toList.all fun b=>!(decide ((b.toNat:Int)<32) || decide ((b.toNat:Int) > 126))
theorem sidxN {s:ByteArray} {i:Nat} {b:UInt8} (h:s.data.toList[i]?=some b):sidx s (i:Int)=some (b.toNat:Int):=by
 unfold sidx
 simp only [show (0:Int)≤(i:Int) by omega,if_true,Int.toNat_natCast,h,Option.map_some]
theorem printable_s {F:Nat} {s:ByteArray} (hb:s.size<1000000) (hF:s.size<F):q135q F s=some (prtS s):=by
 unfold q135q prtS
 have hsz:(s.size:Int)=(s.data.toList.length:Int):=by
  show ((s.data.size:Nat):Int)=_
  rw [Array.length_toList]
 have hl:s.data.toList.length=s.size:=Array.length_toList
 refine allLoop (L:=q31q s) (fun b:UInt8=>!(decide ((b.toNat:Int)<32) || decide ((b.toNat:Int) > 126))) (by omega) (fun n i x hx hi=>?_) (fun n=>?_) (by omega)
 ·simp only [q31q,q70q,hsz,dltN hx,if_true,sidxN hx,Option.bind_some,nxtI hi,sOr]
  cases (decide ((x.toNat:Int)<32) || decide ((x.toNat:Int) > 126)) <;> simp
 ·simp only [q31q,q70q,hsz,dgeN,Bool.false_eq_true,if_false]
def okPt (p:GPart):Bool:=!(decide (p.Max<1) || (decide (p.Max > 40) || (decide (p.Topic<0) || (decide (p.Topic ≥ 16) || (decide (p.Objective<0) || decide (p.Objective ≥ 6)))))) &&
 (if p.Kind=1 then decide (p.Options=0) && decide (p.Key=0) else decide (p.Kind=2) && (decide (p.Options ≥ 2) && (decide (p.Options≤5) && (decide (p.Key ≥ 0) && decide (p.Key<p.Options)))))
theorem validPart_s (p:GPart):q134q p=some (okPt p):=by
 unfold q134q okPt
 cases (decide (p.Max<1) || (decide (p.Max > 40) || (decide (p.Topic<0) || (decide (p.Topic ≥ 16) || (decide (p.Objective<0) || decide (p.Objective ≥ 6)))))) with
 | true=>simp
 | false =>
  by_cases h1:p.Kind=1
  ·simp only [h1,Bool.false_eq_true,if_false,if_true,beq_self_eq_true,Bool.not_false,Bool.true_and,beqD]
  ·by_cases h2:p.Kind=2
   ·simp [h1,h2]
   ·simp [h1,h2]
def badEn (id:Int) (l:List Int) (i:Nat) (x:Int):Bool:=!(decide (x ≥ 0) && decide (x≤9999)) || (decide (x=id) || (decide (0<i) && decide (l.getD (i - 1) 0 ≥ x)))
def okEn (id:Int) (l:List Int):Bool:=scan (fun i x=>if badEn id l i x=true then some false else .none) true 0 l
theorem prevN {l:List Int} {i:Nat} {x:Int} (hi:i<1000000) (hx:l[i]?=some x) (h0:0<i):idx l (i64 ((i:Int) - 1))=some (l.getD (i - 1) 0):=by
 have h1:=(List.getElem?_eq_some_iff.1 hx).1
 rw [i64_of (by omega) (by omega),show (i:Int) - 1=((i - 1:Nat):Int) by omega,idx_nat]
 simp [show i - 1<l.length by omega]
theorem enemies_s {F:Nat} {id:Int} {l:List Int} (hb:l.length<1000000) (hF:l.length<F):q88q F id l=some (okEn id l):=by
 unfold q88q okEn
 refine scanLoop _ _ hb (fun n i x hx hi=>?_) (fun n=>?_) hF
 ·simp only [q29q,q38q,dltN hx,if_true,idxN hx,Option.bind_some,q112q,nxtI hi]
  unfold badEn
  by_cases h0:0<i
  ·have d:decide ((i:Int) > 0)=true:=by simp; exact h0
   simp only [d,if_true,prevN hi hx h0,Option.bind_some,sOr,h0,decide_true,Bool.true_and,beqD]
   cases (!(decide (x ≥ 0) && decide (x≤9999)) || (decide (x=id) || decide (l.getD (i - 1) 0 ≥ x))) <;> simp
  ·have d:decide ((i:Int) > 0)=false:=by simp; omega
   simp only [d,Bool.false_eq_true,if_false,Option.bind_some,sOr,h0,decide_false,Bool.false_and,beqD]
   cases (!(decide (x ≥ 0) && decide (x≤9999)) || (decide (x=id) || false)) <;> simp
 ·simp only [q29q,q38q,dgeN,Bool.false_eq_true,if_false]
def chkI (x:GItem):Int :=
 if (!(decide (x.ID ≥ 0) && decide (x.ID≤9999)) || (decide (x.Version<1) || decide (x.Version > 8)))=true then 2
 else if (decide ((x.Stem.size:Int) > 40) || (decide ((x.Parts.length:Int) > 6) || decide ((x.Enemies.length:Int) > 8)))=true then 3
 else if (decide (x.Stem=ByteArray.mk #[]) || !(prtS x.Stem))=true then 7
 else if x.Parts=[] then 10
 else if x.Parts.all okPt=true then (if okEn x.ID x.Enemies=true then 0 else 9) else 1
theorem scan_all' {α R:Type} (f:α→Bool) (c e:R):∀ (l:List α) (i:Nat),scan (fun _ x=>if f x=true then .none else some c) e i l=if l.all f=true then e else c
 | [],i=>rfl
 | x :: l,i=>by
  unfold scan
  rw [List.all_cons]
  cases hf:f x with
  | true=>simp [scan_all' f c e l]
  | false=>simp
theorem check_s {F:Nat} {x:GItem} (hF:50<F):q139q F x=some (chkI x):=by
 unfold q139q chkI q112q
 simp only [Option.bind_some,sOr]
 cases h1:(!(decide (x.ID ≥ 0) && decide (x.ID≤9999)) || (decide (x.Version<1) || decide (x.Version > 8))) with
 | true=>simp
 | false =>
  simp only [Bool.false_eq_true,if_false]
  cases h2:(decide ((x.Stem.size:Int) > 40) || (decide ((x.Parts.length:Int) > 6) || decide ((x.Enemies.length:Int) > 8))) with
  | true=>simp
  | false =>
   simp only [Bool.or_eq_false_iff,decide_eq_false_iff_not] at h2
   simp only [Bool.false_eq_true,if_false]
   rw [printable_s (by omega) (by omega)]
   simp only [Option.bind_some,sOr]
   cases (decide (x.Stem=ByteArray.mk #[]) || !(prtS x.Stem)) with
   | true=>simp
   | false =>
    simp only [Bool.false_eq_true,if_false]
    by_cases h3:x.Parts=[]
    ·simp [h3]
    ·have h4:((x.Parts.length:Int) == 0)=false:=by
      rw [beq_eq_false_iff_ne]; intro h; exact h3 (List.eq_nil_of_length_eq_zero (by omega))
     simp only [h3,h4,Bool.false_eq_true,if_false]
     rw [← scan_all' okPt (1:Int) (if okEn x.ID x.Enemies=true then 0 else 9) x.Parts 0]
     refine scanLoop _ _ (by omega) (fun n i y hy hi=>?_) (fun n=>?_) (by omega)
     ·simp only [q111q,q121q,dltN hy,if_true,idxN hy,Option.bind_some,nxtI hi,validPart_s]
      cases okPt y <;> simp
     ·simp only [q111q,q121q,dgeN,Bool.false_eq_true,if_false]
      rw [enemies_s (by omega) (by omega)]
      cases okEn x.ID x.Enemies <;> simp
theorem chk_sh {F:Nat} {x:GItem} (hF:50<F) (h:chkI x=0):ShI F x∧0≤x.ID∧x.ID≤9999∧1≤x.Version∧x.Version≤8:=by
 unfold chkI at h
 by_cases h1:(!(decide (x.ID ≥ 0) && decide (x.ID≤9999)) || (decide (x.Version<1) || decide (x.Version > 8)))=true
 ·rw [if_pos h1] at h; simp at h
 ·rw [if_neg h1] at h
  by_cases h2:(decide ((x.Stem.size:Int) > 40) || (decide ((x.Parts.length:Int) > 6) || decide ((x.Enemies.length:Int) > 8)))=true
  ·rw [if_pos h2] at h; simp at h
  ·simp only [Bool.not_eq_true,Bool.or_eq_false_iff,decide_eq_false_iff_not,Bool.not_eq_false',Bool.and_eq_true,decide_eq_true_eq] at h1 h2
   refine ⟨⟨⟨?_,?_⟩,?_,?_⟩,?_,?_,?_,?_⟩ <;> omega
def SortR (l:List Gq2):Prop:=l.Pairwise fun a b=>a.ID<b.ID
def placeR (l:List Gq2) (n:Int):Option Nat:=l.findIdx? fun b=>b.ID == n
def cutR (l:List Gq2) (n:Int):Nat:=(l.takeWhile fun b=>decide (b.ID<n)).length
theorem cutR_le (l:List Gq2) (n:Int):cutR l n≤l.length:=(List.takeWhile_sublist _).length_le
theorem cutR_iff {l:List Gq2} (hs:SortR l) (n:Int):∀ q (hq:q<l.length),q<cutR l n ↔ l[q].ID<n:=by
 induction l with
 | nil=>intro q hq; simp at hq
 | cons x s ih =>
  have hs':=List.pairwise_cons.1 hs
  intro q hq
  unfold cutR
  by_cases hx:x.ID<n
  ·rw [List.takeWhile_cons_of_pos (by simpa using hx)]
   cases q with
   | zero=>simp [hx]
   | succ q=>have:=ih hs'.2 q (by simpa using hq); unfold cutR at this; simpa using this
  ·rw [List.takeWhile_cons_of_neg (by simpa using hx)]
   cases q with
   | zero=>simp; omega
   | succ q =>
    have hq':q<s.length:=by simpa using hq
    have:=hs'.1 s[q] (List.getElem_mem _)
    simp; omega
theorem mid_s {a b:Nat} (h:a+b<1000000000):i64 (shrI .u64 (IntKind.u64.wrap (i64 ((a:Int)+b))) 1)=(((a+b) / 2:Nat):Int):=by
 rw [i64_of (n:=(a:Int)+b) (by omega) (by omega)]
 have h1:IntKind.u64.wrap ((a:Int)+b)=(a:Int)+b:=by
  unfold IntKind.wrap
  simp only [IntKind.bits,IntKind.signed]
  first | omega | (simp; omega)
 rw [h1]
 have h2:shrI .u64 ((a:Int)+b) 1=((a:Int)+b) / 2:=by
  unfold shrI
  simp only [IntKind.bits]
  rw [show (2:Int) ^ min (1:Int).toNat 64=2 from rfl]
  rw [Int.fdiv_eq_ediv_of_nonneg _ (by omega)]
 rw [h2,i64_of (by omega) (by omega)]
 omega
theorem bsearch_loop {l:List Gq2} {x:Int} {p2:Gq2→Int→Option Int} {f:Gq2→Int} {k:Nat} (hb:l.length<1000000) (hk:k≤l.length) (hf:∀ y ∈ l,p2 y x=some (f y)) (h:∀ q (hq:q<l.length),q<k ↔ f l[q]<0) :
  ∀ n (a b:Nat),a≤k→k≤b→b≤l.length→b - a<n→q1q l x p2 n a b=some ((k:Int),match l[k]? with | some y=>f y == 0 | .none=>false):=by
 intro n
 induction n with
 | zero=>intro a b _ _ _ h; omega
 | succ n ih =>
  intro a b ha hkb hbl hn
  simp only [q1q,q7q]
  by_cases hab:a<b
  ·have d:decide ((a:Int)<(b:Int))=true:=by simp; exact hab
   have hm:(a+b) / 2<l.length:=by omega
   simp only [d,if_true,mid_s (show a+b<1000000000 by omega),idx_lt hm,Option.bind_some,hf _ (List.getElem_mem hm)]
   by_cases hlt:f l[(a+b) / 2]<0
   ·have:=(h _ hm).2 hlt
    simp only [hlt,decide_true,if_true,nxtN (show (a+b) / 2<1000000000 by omega)]
    exact ih _ _ (by omega) hkb hbl (by omega)
   ·have:¬ (a+b) / 2<k:=fun hc=>hlt ((h _ hm).1 hc)
    simp only [hlt,decide_false,Bool.false_eq_true,if_false]
    exact ih _ _ ha (by omega) (by omega) (by omega)
  ·have d:decide ((a:Int)<(b:Int))=false:=by simp; omega
   have hak:a=k:=by omega
   subst hak
   simp only [d,Bool.false_eq_true,if_false]
   by_cases hal:a<l.length
   ·have d2:decide ((a:Int)<(l.length:Int))=true:=by simp; exact hal
    simp only [d2,if_true,idx_lt hal,Option.bind_some,hf _ (List.getElem_mem hal),List.getElem?_eq_getElem hal]
   ·have d2:decide ((a:Int)<(l.length:Int))=false:=by simp; omega
    simp only [d2,Bool.false_eq_true,if_false,Option.bind_some,List.getElem?_eq_none (show l.length≤a by omega)]
theorem placeR_at {l:List Gq2} (hs:SortR l) (c:Int):placeR l c=if (match l[cutR l c]? with | some y=>cmpS y.ID c == 0 | .none=>false)=true then some (cutR l c) else .none:=by
 have h:=cutR_iff hs c
 have hk:=cutR_le l c
 generalize cutR l c=k at h hk
 by_cases hkl:k<l.length
 ·rw [List.getElem?_eq_getElem hkl]
  simp only [beq_iff_eq,cmpS_zero]
  split
  ·rename_i hc
   unfold placeR
   rw [List.findIdx?_eq_some_iff_getElem]
   refine ⟨hkl,by simpa using hc,fun j hj=>?_⟩
   have:=(h j (by omega)).1 hj
   simp; omega
  ·rename_i hc
   unfold placeR
   rw [List.findIdx?_eq_none_iff]
   intro y hy
   obtain ⟨q,hq,rfl⟩:=List.getElem_of_mem hy
   have h2:=h q hq
   rcases Nat.lt_trichotomy q k with hqk | rfl | hqk
   ·have:=h2.1 hqk; simp; omega
   ·simpa using hc
   ·have h3:=List.pairwise_iff_getElem.1 hs k q hkl hq hqk
    have h4:=h k hkl
    simp; omega
 ·rw [List.getElem?_eq_none (by omega)]
  simp only [Bool.false_eq_true,if_false]
  unfold placeR
  rw [List.findIdx?_eq_none_iff]
  intro y hy
  obtain ⟨q,hq,rfl⟩:=List.getElem_of_mem hy
  have:=(h q hq).1 (by omega)
  simp; omega
theorem placeR_cut {l:List Gq2} (hs:SortR l) {c:Int} {j:Nat} (h:placeR l c=some j):j=cutR l c:=by
 rw [placeR_at hs] at h
 by_cases hc:(match l[cutR l c]? with | some y=>cmpS y.ID c == 0 | .none=>false)=true
 ·rw [if_pos hc] at h; exact (Option.some.inj h).symm
 ·rw [if_neg hc] at h; cases h
theorem placeR_get {l:List Gq2} {c:Int} {j:Nat} (h:placeR l c=some j):∃ hj:j<l.length,l[j].ID=c:=by
 unfold placeR at h
 rw [List.findIdx?_eq_some_iff_getElem] at h
 exact ⟨h.1,by simpa using h.2.1⟩
theorem bsR {F:Nat} {l:List Gq2} {c:Int} (hs:SortR l) (hb:l.length<1000000) (hFl:l.length<F) :
  q4q F l c (fun a0 a1=>q96q a0 a1)=some ((cutR l c:Int),(placeR l c).isSome):=by
 have h1:∀ y ∈ l,q96q y c=some (cmpS y.ID c):=fun y _=>by simp [q96q,compare_s]
 have hl:=bsearch_loop (l:=l) (x:=c) (p2:=fun a0 a1=>q96q a0 a1) (f:=fun y=>cmpS y.ID c) hb (cutR_le l c) h1 (fun q hq=>by rw [cutR_iff hs c q hq,cmpS_lt]) F 0 l.length (by omega) (cutR_le l c) (by omega) (by omega)
 unfold q4q
 rw [show (0:Int)=((0:Nat):Int) from rfl,hl,placeR_at hs]
 congr 2
 cases hc:(match l[cutR l c]? with | some y=>cmpS y.ID c == 0 | .none=>false) <;> simp
end Go.Sh
set_option linter.unusedVariables false
set_option linter.unusedSimpArgs false
namespace Go.Sh
open Go.L

structure OkRec (r:Gq2):Prop where
 n1:1≤r.Versions.length
 n8:r.Versions.length≤8
 ap:r.Approved.length=r.Versions.length
 us:r.Uses.length≤300
 vs:∀ (i:Nat) x,r.Versions[i]?=some x→chkI x=0∧x.ID=r.ID∧x.Version=(i:Int)+1
 uv:∀ u ∈ r.Uses,1≤u.Version∧u.Version≤r.Versions.length
structure ValK (l:List Gq2):Prop where
 len:l.length≤40
 sort:SortR l
 ok:∀ r ∈ l,OkRec r
def badV (e:Gq0) (r:Gq2):Prop:=e.Ref.Version<1 ∨ e.Ref.Version > r.Versions.length
instance (e:Gq0) (r:Gq2):Decidable (badV e r):=by unfold badV; infer_instance
def apAt (e:Gq0) (r:Gq2):Bool:=r.Approved.getD (e.Ref.Version - 1).toNat false
def editR (r:Gq2) (e:Gq0):Int × Gq2 :=
 if e.Kind=2 then (if r.Withdrawn=true ∨ e.Item.Version ≠ (r.Versions.length:Int)+1 then (8,r) else (0,⟨r.ID,r.Versions++[e.Item],r.Approved++[false],r.Uses,r.Withdrawn⟩))
 else if e.Kind=3 then (if badV e r then (4,r) else if r.Withdrawn=true then (8,r) else if apAt e r=true then (5,r) else (0,⟨r.ID,r.Versions,r.Approved.set (e.Ref.Version - 1).toNat true,r.Uses,r.Withdrawn⟩))
 else if e.Kind=4 then (if badV e r then (4,r) else if r.Withdrawn=true ∨ apAt e r=false then (8,r) else if r.Uses.any (fun u=>u.Form == e.Form)=true then (5,r) else if 300≤r.Uses.length then (3,r) else (0,⟨r.ID,r.Versions,r.Approved,r.Uses++[⟨e.Ref.Version,e.Form,e.Stamp.Time⟩],r.Withdrawn⟩))
 else (if r.Withdrawn=decide (e.Kind=5) then (8,r) else (0,⟨r.ID,r.Versions,r.Approved,r.Uses,decide (e.Kind=5)⟩))
def tgt (e:Gq0):Int:=if e.Kind=2 then e.Item.ID else e.Ref.ID
def insR (l:List Gq2) (e:Gq0):List Gq2:=l.take (cutR l e.Item.ID)++[⟨e.Item.ID,[e.Item],[false],[],false⟩]++l.drop (cutR l e.Item.ID)
def draftB (l:List Gq2) (e:Gq0):Int × List Gq2 :=
 if chkI e.Item ≠ 0 then (chkI e.Item,l) else if e.Item.Version ≠ 1 then (8,l) else if (placeR l e.Item.ID).isSome=true then (5,l) else if 40≤l.length then (3,l) else (0,insR l e)
def editB (l:List Gq2) (e:Gq0):Int × List Gq2 :=
 match placeR l (tgt e) with
 | .none=>(4,l)
 | some k=>match l[k]? with
  | .none=>(4,l)
  | some r=>if (editR r e).1=0 then (0,l.set k (editR r e).2) else ((editR r e).1,l)
def stepB (l:List Gq2) (e:Gq0):Int × List Gq2 :=
 if e.Kind=1 then draftB l e
 else if e.Kind=2 then (if chkI e.Item ≠ 0 then (chkI e.Item,l) else editB l e)
 else if e.Kind=3 ∨ e.Kind=4 ∨ e.Kind=5 ∨ e.Kind=6 then editB l e
 else (2,l)
theorem place_s {F:Nat} {l:List Gq2} {c:Int} (h:ValK l) (hF:400<F):q157q F ⟨l⟩ c=some ((cutR l c:Int),(placeR l c).isSome):=by
 unfold q157q
 rw [bsR h.sort (by have:=h.len; omega) (by have:=h.len; omega)]; rfl
theorem record_s {F:Nat} {l:List Gq2} {c:Int} (h:ValK l) (hF:400<F):q127q F ⟨l⟩ c=some ((placeR l c).map Int.ofNat):=by
 unfold q127q
 rw [place_s h hF]
 simp only [Option.bind_some]
 cases hp:placeR l c with
 | none=>simp
 | some j =>
  obtain ⟨hjl,_⟩:=placeR_get hp
  simp only [Option.isSome_some,Bool.not_true,Bool.false_eq_true,if_false]
  rw [← placeR_cut h.sort hp,idx_lt hjl]
  rfl
theorem version_s {F:Nat} {l:List Gq2} {e:Gq0} (h:ValK l) (hF:400<F):q133q F ⟨l⟩ e.Ref=some (match placeR l e.Ref.ID with | .none=>.none | some j=>match l[j]? with | .none=>.none | some r=>if badV e r then .none else some (j:Int)):=by
 unfold q133q
 rw [record_s h hF]
 simp only [Option.bind_some]
 cases hp:placeR l e.Ref.ID with
 | none=>rfl
 | some j =>
  obtain ⟨hjl,_⟩:=placeR_get hp
  simp only [Option.map_some,optC,List.getElem?_eq_getElem hjl]
  rw [show Int.ofNat j=(j:Int) from rfl,idx_lt hjl]
  simp only [Option.bind_some,badV,Bool.or_eq_true,decide_eq_true_eq]
  split
  ·rename_i hh; simp only [hh,if_true]
  ·rename_i hh; simp only [hh,if_false]
theorem draft_s {F:Nat} {l:List Gq2} {e:Gq0} (h:ValK l) (hF:400<F):q175q F ⟨l⟩ e=some ((draftB l e).1,⟨(draftB l e).2⟩):=by
 unfold q175q draftB
 rw [check_s (by omega),place_s h hF]
 simp only [Option.bind_some]
 by_cases h1:chkI e.Item=0
 ·have hsh:=(chk_sh (F:=F) (by omega) h1).1
  simp only [h1,bne_self_eq_false,Bool.false_eq_true,if_false,ne_eq,not_true_eq_false]
  by_cases h2:e.Item.Version=1
  ·simp only [h2,bne_self_eq_false,Bool.false_eq_true,if_false,not_true_eq_false]
   by_cases h3:(placeR l e.Item.ID).isSome=true
   ·simp only [h3,if_true]
   ·simp only [h3,if_false,Bool.false_eq_true]
    by_cases h4:40≤l.length
    ·have d:decide ((l.length:Int) ≥ 40)=true:=by simp; omega
     simp only [d,h4,if_true]
    ·have d:decide ((l.length:Int) ≥ 40)=false:=by simp; omega
     simp only [d,h4,if_false,Bool.false_eq_true,cloneItem_s hsh,Option.bind_some]
     unfold insF
     have hc:=cutR_le l e.Item.ID
     rw [if_pos (by have:=h.len; constructor <;> omega)]
     rfl
  ·have d:(e.Item.Version != 1)=true:=by simp [h2]
   simp only [d,h2,if_true,not_false_eq_true]
 ·have d:(chkI e.Item != 0)=true:=by simp [h1]
  simp only [d,h1,if_true,ne_eq,not_false_eq_true]
theorem revise_s {F:Nat} {l:List Gq2} {e:Gq0} (h:ValK l) (hF:400<F) (hk:e.Kind=2):q166q F ⟨l⟩ e=some ((stepB l e).1,⟨(stepB l e).2⟩):=by
 unfold q166q stepB
 rw [check_s (by omega),record_s h hF]
 simp only [Option.bind_some,hk,show ¬ ((2:Int)=1) by omega,if_false,if_true]
 by_cases h1:chkI e.Item=0
 ·have hsh:=(chk_sh (F:=F) (by omega) h1).1
  simp only [h1,bne_self_eq_false,Bool.false_eq_true,if_false,ne_eq,not_true_eq_false]
  unfold editB
  simp only [tgt,hk,if_true]
  cases hp:placeR l e.Item.ID with
  | none=>rfl
  | some j =>
   obtain ⟨hjl,_⟩:=placeR_get hp
   have hr:=h.ok l[j] (List.getElem_mem hjl)
   simp only [Option.map_some,optC,List.getElem?_eq_getElem hjl]
   rw [show Int.ofNat j=(j:Int) from rfl,idx_lt hjl]
   simp only [Option.bind_some,editR,hk,if_true]
   have hw:i64 ((l[j].Versions.length:Int)+1)=(l[j].Versions.length:Int)+1:=by have:=hr.n8; rw [i64_of (by omega) (by omega)]
   rw [hw]
   by_cases h2:l[j].Withdrawn=true ∨ e.Item.Version ≠ (l[j].Versions.length:Int)+1
   ·have d:(l[j].Withdrawn || e.Item.Version != (l[j].Versions.length:Int)+1)=true:=by simpa using h2
    simp only [d,if_true,h2,show ¬ ((8:Int)=0) by omega,if_false]
   ·have d:(l[j].Withdrawn || e.Item.Version != (l[j].Versions.length:Int)+1)=false:=by simpa using h2
    simp only [d,Bool.false_eq_true,if_false,h2,cloneItem_s hsh,Option.bind_some]
    rw [app_of (by simp; have:=hr.n8; omega),Option.bind_some,app_of (by simp; have:=hr.n8; have:=hr.ap; omega)]
    simp
 ·have d:(chkI e.Item != 0)=true:=by simp [h1]
  simp only [d,h1,if_true,ne_eq,not_false_eq_true]
theorem apIdx {e:Gq0} {r:Gq2} (hr:OkRec r) (h:¬ badV e r):idx r.Approved (i64 (e.Ref.Version - 1))=some (apAt e r)∧i64 (e.Ref.Version - 1)=e.Ref.Version - 1:=by
 unfold badV at h
 have:=hr.n8
 have ha:=hr.ap
 have hw:i64 (e.Ref.Version - 1)=e.Ref.Version - 1:=by rw [i64_of (by omega) (by omega)]
 refine ⟨?_,hw⟩
 rw [hw]
 unfold apAt
 rw [idx_some]
 refine ⟨by omega,?_⟩
 have:(e.Ref.Version - 1).toNat<r.Approved.length:=by omega
 rw [List.getD_eq_getElem?_getD,List.getElem?_eq_getElem this]; rfl
theorem approve_s {F:Nat} {l:List Gq2} {e:Gq0} (h:ValK l) (hF:400<F) (hk:e.Kind=3):q152q F ⟨l⟩ e=some ((stepB l e).1,⟨(stepB l e).2⟩):=by
 unfold q152q stepB editB
 rw [version_s h hF]
 simp only [Option.bind_some,hk,tgt,show ¬ ((3:Int)=1) by omega,show ¬ ((3:Int)=2) by omega,if_false,true_or,if_true]
 cases hp:placeR l e.Ref.ID with
 | none=>rfl
 | some j =>
  obtain ⟨hjl,_⟩:=placeR_get hp
  have hr:=h.ok l[j] (List.getElem_mem hjl)
  simp only [List.getElem?_eq_getElem hjl,editR,hk,show ¬ ((3:Int)=2) by omega,if_false,if_true]
  by_cases hb:badV e l[j]
  ·simp only [hb,if_true,optC,show ¬ ((4:Int)=0) by omega,if_false]
  ·obtain ⟨q1,q2⟩:=apIdx hr hb
   simp only [hb,if_false,optC,idx_lt hjl,Option.bind_some]
   by_cases hw:l[j].Withdrawn=true
   ·simp only [hw,if_true,show ¬ ((8:Int)=0) by omega,if_false]
   ·simp only [hw,if_false,q1,Option.bind_some,Bool.false_eq_true]
    by_cases ha:apAt e l[j]=true
    ·simp only [ha,if_true,show ¬ ((5:Int)=0) by omega,if_false]
    ·simp only [ha,if_false,Bool.false_eq_true,q2,if_true]
     rfl
theorem uses_s {F:Nat} {l:List GUse} {p:GUse→Option Bool} (f:GUse→Bool) (hp:∀ u ∈ l,p u=some (f u)) (hb:l.length<1000000) (hF:l.length<F):q13q F l p=some (l.any f):=by
 unfold q13q q62q
 rw [scanLoop (a:=l) (L:=q8q l p) (fun i x=>if f x=true then some (i:Int) else .none) (-1) hb (fun n i x hx hi=>?_) (fun n=>?_) hF]
 ·simp only [Option.bind_some]
  congr 1
  have key:∀ (l:List GUse) (i:Nat),decide (scan (fun i x=>if f x=true then some (i:Int) else .none) (-1:Int) i l ≥ 0)=l.any f:=by
   intro l
   induction l with
   | nil=>intro i; rfl
   | cons x l ih =>
    intro i
    unfold scan
    rw [List.any_cons]
    cases hf:f x with
    | true=>simp
    | false=>simp only [Bool.false_eq_true,if_false,Bool.false_or]; exact ih (i+1)
  exact key l 0
 ·simp only [q8q,q16q,dltN hx,if_true,idxN hx,Option.bind_some,nxtI hi,hp x (List.mem_of_getElem? hx)]
  cases f x <;> simp
 ·simp only [q8q,q16q,dgeN,Bool.false_eq_true,if_false]
theorem use_s {F:Nat} {l:List Gq2} {e:Gq0} (h:ValK l) (hF:400<F) (hk:e.Kind=4):bank_use F ⟨l⟩ e=some ((stepB l e).1,⟨(stepB l e).2⟩):=by
 unfold bank_use stepB editB
 rw [version_s h hF]
 simp only [Option.bind_some,hk,tgt,show ¬ ((4:Int)=1) by omega,show ¬ ((4:Int)=2) by omega,show ¬ ((4:Int)=3) by omega,if_false,true_or,or_true,if_true]
 cases hp:placeR l e.Ref.ID with
 | none=>rfl
 | some j =>
  obtain ⟨hjl,_⟩:=placeR_get hp
  have hr:=h.ok l[j] (List.getElem_mem hjl)
  simp only [List.getElem?_eq_getElem hjl,editR,hk,show ¬ ((4:Int)=2) by omega,show ¬ ((4:Int)=3) by omega,if_false,if_true]
  by_cases hb:badV e l[j]
  ·simp only [hb,if_true,optC,show ¬ ((4:Int)=0) by omega,if_false]
  ·obtain ⟨q1,q2⟩:=apIdx hr hb
   simp only [hb,if_false,optC,idx_lt hjl,Option.bind_some,q1,sOr]
   have hu:=hr.us
   by_cases hw:l[j].Withdrawn=true ∨ apAt e l[j]=false
   ·have d:(l[j].Withdrawn || !(apAt e l[j]))=true:=by simpa using hw
    simp only [d,hw,if_true,show ¬ ((8:Int)=0) by omega,if_false]
   ·have d:(l[j].Withdrawn || !(apAt e l[j]))=false:=by simpa using hw
    simp only [d,hw,if_false,Bool.false_eq_true]
    rw [uses_s (p:=fun a0=>q190q a0 e) (fun u=>u.Form == e.Form) (fun u _=>rfl) (by omega) (by omega)]
    simp only [Option.bind_some]
    by_cases ha:(l[j].Uses.any fun u=>u.Form == e.Form)=true
    ·simp only [ha,if_true,show ¬ ((5:Int)=0) by omega,if_false]
    ·simp only [ha,if_false,Bool.false_eq_true]
     by_cases h3:300≤l[j].Uses.length
     ·have d3:decide ((l[j].Uses.length:Int) ≥ 300)=true:=by simp; omega
      simp only [d3,h3,if_true,show ¬ ((3:Int)=0) by omega,if_false]
     ·have d3:decide ((l[j].Uses.length:Int) ≥ 300)=false:=by simp; omega
      simp only [d3,h3,if_false,Bool.false_eq_true,if_true]
      rw [app_of (by simp; omega)]
      rfl
theorem withdraw_s {F:Nat} {l:List Gq2} {e:Gq0} (h:ValK l) (hF:400<F) (hk:e.Kind=5 ∨ e.Kind=6):q35q F ⟨l⟩ e (decide (e.Kind=5))=some ((stepB l e).1,⟨(stepB l e).2⟩):=by
 have n1:¬ e.Kind=1:=by omega
 have n2:¬ e.Kind=2:=by omega
 have n3:¬ e.Kind=3:=by omega
 have n4:¬ e.Kind=4:=by omega
 unfold q35q stepB editB
 rw [record_s h hF]
 simp only [Option.bind_some,n1,n2,n3,n4,hk,tgt,if_false,false_or,if_true]
 cases hp:placeR l e.Ref.ID with
 | none=>rfl
 | some j =>
  obtain ⟨hjl,_⟩:=placeR_get hp
  simp only [Option.map_some,List.getElem?_eq_getElem hjl,editR,n2,n3,n4,if_false,optC]
  rw [show Int.ofNat j=(j:Int) from rfl,idx_lt hjl]
  simp only [Option.bind_some,beq_iff_eq]
  by_cases hw:l[j].Withdrawn=decide (e.Kind=5)
  ·simp only [hw,if_true,show ¬ ((8:Int)=0) by omega,if_false]
  ·simp only [hw,if_false,if_true]
   rfl
theorem sortR_set {l:List Gq2} (hs:SortR l) {k:Nat} (hk:k<l.length) {b:Gq2} (hb:b.ID=l[k].ID):SortR (l.set k b):=by
 unfold SortR at *
 rw [List.pairwise_iff_getElem] at hs ⊢
 intro i j hi hj hij
 rw [List.getElem_set,List.getElem_set]
 have hi':i<l.length:=by simpa using hi
 have hj':j<l.length:=by simpa using hj
 split
 ·rename_i h1
  split
  ·omega
  ·subst h1; rw [hb]; exact hs _ _ hi' hj' hij
 ·split
  ·rename_i h1 h2; subst h2; rw [hb]; exact hs _ _ hi' hj' hij
  ·exact hs _ _ hi' hj' hij
theorem placeR_none {l:List Gq2} {n:Int} (h:placeR l n=.none):∀ x ∈ l,x.ID ≠ n:=fun x hx hn=>by
 unfold placeR at h
 rw [List.findIdx?_eq_none_iff] at h
 have:=h x hx
 simp [hn] at this
theorem sortR_ins {l:List Gq2} (hs:SortR l) {n:Int} (hn:placeR l n=.none) {b:Gq2} (hb:b.ID=n):SortR (l.take (cutR l n)++[b]++l.drop (cutR l n)):=by
 have hc:=cutR_iff hs n
 have hk:=cutR_le l n
 have hne:=placeR_none hn
 generalize cutR l n=k at hc hk
 have h1:∀ x ∈ l.take k,x.ID<n:=fun x hx=>by
  obtain ⟨q,hq,rfl⟩:=List.getElem_of_mem hx
  simp only [List.length_take] at hq
  rw [List.getElem_take]
  exact (hc q (by omega)).1 (by omega)
 have h2:∀ x ∈ l.drop k,n<x.ID:=fun x hx=>by
  obtain ⟨q,hq,rfl⟩:=List.getElem_of_mem hx
  simp only [List.length_drop] at hq
  rw [List.getElem_drop]
  have:=(hc (k+q) (by omega))
  have h3:=hne _ (List.getElem_mem (show k+q<l.length by omega))
  omega
 unfold SortR at *
 rw [List.append_assoc,List.pairwise_append]
 refine ⟨hs.sublist (List.take_sublist _ _),?_,?_⟩
 ·rw [List.singleton_append,List.pairwise_cons]
  exact ⟨fun x hx=>by rw [hb]; exact h2 x hx,hs.sublist (List.drop_sublist _ _)⟩
 ·intro x hx y hy
  rw [List.singleton_append] at hy
  rcases List.mem_cons.1 hy with rfl | hy
  ·rw [hb]; exact h1 x hx
  ·have:=h1 x hx; have:=h2 y hy; omega
theorem editR_id {r:Gq2} {e:Gq0}:(editR r e).2.ID=r.ID:=by
 unfold editR
 repeat' split
 all_goals rfl
theorem editR_ok {r:Gq2} {e:Gq0} (h:OkRec r) (hc:e.Kind=2→chkI e.Item=0∧e.Item.ID=r.ID):OkRec (editR r e).2:=by
 unfold editR
 split
 ·rename_i hk
  obtain ⟨c1,c2⟩:=hc hk
  split
  ·exact h
  ·rename_i h2
   simp only [not_or,ne_eq,Decidable.not_not] at h2
   have c3:=(chk_sh (F:=100) (by omega) c1).2
   refine ⟨by simp,by simp; omega,by simp [h.ap],h.us,fun i x hx=>?_,fun u hu=>?_⟩
   ·simp only [List.getElem?_append] at hx
    split at hx
    ·exact h.vs i x hx
    ·rename_i hi
     rw [List.getElem?_singleton] at hx
     split at hx
     ·cases hx; exact ⟨c1,c2,by omega⟩
     ·cases hx
   ·have:=h.uv u hu
    simp only [List.length_append,List.length_singleton]
    omega
 ·split
  ·split
   ·exact h
   ·split
    ·exact h
    ·split
     ·exact h
     ·exact ⟨h.n1,h.n8,by simp [h.ap],h.us,h.vs,h.uv⟩
  ·split
   ·split
    ·exact h
    ·rename_i hb
     split
     ·exact h
     ·split
      ·exact h
      ·split
       ·exact h
       ·refine ⟨h.n1,h.n8,h.ap,by simp; omega,h.vs,fun u hu=>?_⟩
        rcases List.mem_append.1 hu with hu | hu
        ·exact h.uv u hu
        ·rw [List.mem_singleton] at hu
         subst hu
         unfold badV at hb
         simp only
         omega
   ·split
    ·exact h
    ·exact ⟨h.n1,h.n8,h.ap,h.us,h.vs,h.uv⟩
theorem editB_val {l:List Gq2} {e:Gq0} (h:ValK l) (hc:e.Kind=2→chkI e.Item=0):ValK (editB l e).2:=by
 unfold editB
 cases hp:placeR l (tgt e) with
 | none=>exact h
 | some k =>
  obtain ⟨hk,hid⟩:=placeR_get hp
  simp only [List.getElem?_eq_getElem hk]
  split
  ·refine ⟨by simpa using h.len,sortR_set h.sort hk editR_id,fun r hr=>?_⟩
   rcases List.mem_or_eq_of_mem_set hr with hr | rfl
   ·exact h.ok r hr
   ·refine editR_ok (h.ok _ (List.getElem_mem hk)) fun h2=>⟨hc h2,?_⟩
    rw [hid]; simp [tgt,h2]
  ·exact h
theorem stepB_val {l:List Gq2} {e:Gq0} (h:ValK l):ValK (stepB l e).2:=by
 unfold stepB
 split
 ·unfold draftB
  split
  ·exact h
  ·rename_i h1
   split
   ·exact h
   ·rename_i h2
    split
    ·exact h
    ·rename_i h3
     split
     ·exact h
     ·rename_i h4
      simp only [ne_eq,Decidable.not_not] at h1 h2
      have hp:placeR l e.Item.ID=.none:=by simpa using h3
      unfold insR
      refine ⟨by simp; have:=cutR_le l e.Item.ID; omega,sortR_ins h.sort hp rfl,fun r hr=>?_⟩
      simp only [List.mem_append,List.mem_singleton] at hr
      rcases hr with (hr | rfl) | hr
      ·exact h.ok r (List.mem_of_mem_take hr)
      ·refine ⟨by simp,by simp,by simp,by simp,fun i x hx=>?_,by simp⟩
       simp only [List.getElem?_singleton] at hx
       split at hx
       ·cases hx; rename_i hi; exact ⟨h1,rfl,by omega⟩
       ·cases hx
      ·exact h.ok r (List.mem_of_mem_drop hr)
 ·split
  ·split
   ·exact h
   ·rename_i h1; exact editB_val h fun _=>by simpa using h1
  ·rename_i h2
   split
   ·exact editB_val h fun hk=>absurd hk h2
   ·exact h
theorem stepB_same {l:List Gq2} {e:Gq0} (h:(stepB l e).1 ≠ 0):(stepB l e).2=l:=by
 revert h
 unfold stepB draftB editB
 repeat' split
 all_goals simp_all
theorem valK_nil:ValK []:=⟨by simp,by simp [SortR],by simp⟩
end Go.Sh
set_option linter.unusedVariables false
set_option linter.unusedSimpArgs false
namespace Go.Sh
open Go.L

def verB (r:Gq2) (i:Nat) (x:GItem):Bool:=decide (chkI x=0) && (decide (x.ID=r.ID) && decide (x.Version=(i:Int)+1))
def useB (r:Gq2) (u:GUse):Bool:=decide (1≤u.Version) && decide (u.Version≤(r.Versions.length:Int))
def recB (r:Gq2):Bool:=!(decide ((r.Versions.length:Int)<1) || (decide ((r.Versions.length:Int) > 8) || (((r.Approved.length:Int) != (r.Versions.length:Int)) || decide ((r.Uses.length:Int) > 300)))) &&
 scan (fun i x=>if verB r i x=true then .none else some false) (r.Uses.all (useB r)) 0 r.Versions
theorem validRecord_s {F:Nat} {r:Gq2} (hF:400<F):q75q F r=some (recB r):=by
 unfold q75q recB
 cases h1:(decide ((r.Versions.length:Int)<1) || (decide ((r.Versions.length:Int) > 8) || (((r.Approved.length:Int) != (r.Versions.length:Int)) || decide ((r.Uses.length:Int) > 300)))) with
 | true=>simp
 | false =>
  simp only [Bool.or_eq_false_iff,decide_eq_false_iff_not] at h1
  simp only [Bool.false_eq_true,if_false,Bool.not_false,Bool.true_and]
  refine scanLoop _ _ (by omega) (fun n i x hx hi=>?_) (fun n=>?_) (by omega)
  ·have hi8:i<8:=by have:=(List.getElem?_eq_some_iff.1 hx).1; omega
   have hw:i64 ((i:Int)+1)=(i:Int)+1:=by rw [i64_of (by omega) (by omega)]
   simp only [q36q,q43q,dltN hx,if_true,idxN hx,Option.bind_some,check_s (show 50<F by omega),sOr,hw]
   have e:verB r i x=!((chkI x != 0) || (x.ID != r.ID || x.Version != (i:Int)+1)):=by
    unfold verB
    refine bEq ?_
    simp only [Bool.and_eq_true,decide_eq_true_eq,Bool.not_eq_true',Bool.or_eq_false_iff,bne_eq_false_iff_eq]
   rw [e]
   cases ((chkI x != 0) || (x.ID != r.ID || x.Version != (i:Int)+1)) <;> simp
  ·simp only [q36q,q43q,dgeN,Bool.false_eq_true,if_false]
   refine allLoop (L:=q23q r) (useB r) (by omega) (fun n i x hx hi=>?_) (fun n=>?_) (by omega)
   ·simp only [q23q,q44q,dltN hx,if_true,idxN hx,Option.bind_some,nxtI hi]
    have e:useB r x=!(decide (x.Version<1) || decide (x.Version > (r.Versions.length:Int))):=by
     unfold useB
     refine bEq ?_
     simp only [Bool.and_eq_true,decide_eq_true_eq,Bool.not_eq_true',Bool.or_eq_false_iff,decide_eq_false_iff_not]
     omega
    rw [e]
    cases (decide (x.Version<1) || decide (x.Version > (r.Versions.length:Int))) <;> simp
   ·simp only [q23q,q44q,dgeN,Bool.false_eq_true,if_false]
theorem recB_iff {r:Gq2}:recB r=true ↔ OkRec r:=by
 unfold recB
 rw [Bool.and_eq_true,scan_true]
 simp only [Bool.not_eq_true',Bool.or_eq_false_iff,decide_eq_false_iff_not,bne_eq_false_iff_eq,List.all_eq_true,useB,verB,Bool.and_eq_true,decide_eq_true_eq,Nat.zero_add]
 constructor
 ·rintro ⟨⟨a,b,c,d⟩,e,f⟩
  exact ⟨by omega,by omega,by omega,by omega,fun i x hx=>f i x hx,fun u hu=>e u hu⟩
 ·intro h
  have:=h.n1; have:=h.n8; have:=h.ap; have:=h.us
  exact ⟨⟨by omega,by omega,by omega,by omega⟩,fun u hu=>h.uv u hu,fun i x hx=>h.vs i x hx⟩
def rowB (l:List Gq2) (i:Nat) (x:Gq2):Bool:=!(decide (0<i) && decide ((l.getD (i - 1) default).ID ≥ x.ID)) && recB x
def validB (l:List Gq2):Bool:=decide (l.length≤40) && scan (fun i x=>if rowB l i x=true then .none else some false) true 0 l
theorem prevR {l:List Gq2} {i:Nat} {x:Gq2} (hi:i<1000000) (hx:l[i]?=some x) (h0:0<i):idx l (i64 ((i:Int) - 1))=some (l.getD (i - 1) default):=by
 have h1:=(List.getElem?_eq_some_iff.1 hx).1
 rw [i64_of (by omega) (by omega),show (i:Int) - 1=((i - 1:Nat):Int) by omega,idx_nat]
 rw [List.getD_eq_getElem?_getD,List.getElem?_eq_getElem (show i - 1<l.length by omega)]; rfl
theorem valid_sB {F:Nat} {l:List Gq2} (hF:400<F):q177q F ⟨l⟩=some (validB l):=by
 unfold q177q validB
 by_cases h:l.length≤40
 ·have d:decide ((l.length:Int) > 40)=false:=by simp; omega
  simp only [d,Bool.false_eq_true,if_false,h,decide_true,Bool.true_and]
  refine scanLoop _ _ (by omega) (fun n i x hx hi=>?_) (fun n=>?_) (by omega)
  ·simp only [q110q,q120q,dltN hx,if_true,idxN hx,Option.bind_some,nxtI hi,validRecord_s hF]
   unfold rowB
   by_cases h0:0<i
   ·have d:decide ((i:Int) > 0)=true:=by simp; exact h0
    simp only [d,if_true,prevR hi hx h0,Option.bind_some,sOr,h0,decide_true,Bool.true_and]
    cases decide ((l.getD (i - 1) default).ID ≥ x.ID) <;> cases recB x <;> simp
   ·have d:decide ((i:Int) > 0)=false:=by simp; omega
    simp only [d,Bool.false_eq_true,if_false,Option.bind_some,h0,decide_false,Bool.false_and,Bool.not_false,Bool.true_and]
    cases recB x <;> simp
  ·simp only [q110q,q120q,dgeN,Bool.false_eq_true,if_false]
 ·have d:decide ((l.length:Int) > 40)=true:=by simp; omega
  simp [d,h]
theorem sortR_adj {l:List Gq2} (h:∀ (i:Nat) x,l[i]?=some x→0<i→(l.getD (i - 1) default).ID<x.ID):SortR l:=by
 unfold SortR
 rw [List.pairwise_iff_getElem]
 have key:∀ (d i:Nat) (hi:i<l.length) (hj:i+d+1<l.length),l[i].ID<l[i+d+1].ID:=by
  intro d
  induction d with
  | zero =>
   intro i hi hj
   have:=h (i+1) l[i+1] (by simp) (by omega)
   simpa [hi] using this
  | succ d ih =>
   intro i hi hj
   have h1:=ih i hi (by omega)
   have:=h (i+(d+1)+1) l[i+(d+1)+1] (by simp) (by omega)
   rw [show i+(d+1)+1 - 1=i+d+1 by omega,List.getD_eq_getElem?_getD,List.getElem?_eq_getElem (show i+d+1<l.length by omega)] at this
   simp only [Option.getD_some] at this
   omega
 intro i j hi hj hij
 have:=key (j - i - 1) i hi (by omega)
 have e:i+(j - i - 1)+1=j:=by omega
 simpa only [e] using this
theorem validB_iff {l:List Gq2}:validB l=true ↔ ValK l:=by
 unfold validB
 rw [Bool.and_eq_true,scan_true,decide_eq_true_eq]
 simp only [rowB,Bool.and_eq_true,Bool.not_eq_true',Bool.and_eq_false_iff,decide_eq_false_iff_not,recB_iff,Nat.zero_add,true_and]
 constructor
 ·rintro ⟨h1,h2⟩
  refine ⟨h1,sortR_adj fun i x hx h0=>?_,fun r hr=>?_⟩
  ·have:=(h2 i x hx).1; omega
  ·obtain ⟨i,hi⟩:=List.getElem?_of_mem hr
   exact (h2 i r hi).2
 ·intro h
  refine ⟨h.len,fun j x hx=>⟨?_,h.ok x (List.mem_of_getElem? hx)⟩⟩
  by_cases h0:0<j
  ·right
   obtain ⟨hj,rfl⟩:=List.getElem?_eq_some_iff.1 hx
   have:=List.pairwise_iff_getElem.1 h.sort (j - 1) j (by omega) hj (by omega)
   rw [List.getD_eq_getElem?_getD,List.getElem?_eq_getElem (show j - 1<l.length by omega)]
   simp only [Option.getD_some]; omega
  ·left; exact h0
structure RecSh (F:Nat) (r:Gq2):Prop where
 vl:r.Versions.length<1000000∧r.Versions.length<F
 v:∀ x ∈ r.Versions,ShI F x
 a:r.Approved.length<1000000∧r.Approved.length<F
 u:r.Uses.length<1000000∧r.Uses.length<F
theorem OkRec.sh {F:Nat} {r:Gq2} (h:OkRec r) (hF:400<F):RecSh F r:=by
 have:=h.n8; have:=h.ap; have:=h.us
 refine ⟨by omega,fun x hx=>?_,by omega,by omega⟩
 obtain ⟨i,hi⟩:=List.getElem?_of_mem hx
 exact (chk_sh (by omega) (h.vs i x hi).1).1
structure BankSh (F:Nat) (l:List Gq2):Prop where
 l1:l.length<1000000
 l2:l.length<F
 r:∀ r ∈ l,RecSh F r
theorem ValK.sh {F:Nat} {l:List Gq2} (h:ValK l) (hF:400<F):BankSh F l :=
 ⟨by have:=h.len; omega,by have:=h.len; omega,fun r hr=>(h.ok r hr).sh hF⟩
def applyB (l:List Gq2) (e:Gq0):List Gq2 × Int :=
 if validB l=true then (if (stepB l e).1=0 then ((stepB l e).2,0) else ([],(stepB l e).1)) else ([],1)
theorem applyB_val {l:List Gq2} {e:Gq0} (h:ValK l):applyB l e=if (stepB l e).1=0 then ((stepB l e).2,0) else ([],(stepB l e).1):=by
 unfold applyB; rw [if_pos (validB_iff.2 h)]
def idOf (e:Gq0):Gq1:=⟨e.Stamp.Source,e.Stamp.Seq⟩
def foldK:List Gq0→List Gq2→List Gq3→List Gq2 × List Gq3
 | [],l,r=>(l,r)
 | e :: s,l,r=>foldK s (stepB l e).2 (if (stepB l e).1=0 then r else r++[⟨idOf e,(stepB l e).1⟩])
def upTo (u:Int) (l:List Gq0):List Gq0:=l.takeWhile fun e=>decide (e.Stamp.Time≤u)
def foldC (ev:List Gq0) (u:Int):List Gq2 × List Gq3 × Int :=
 let c:=canonEv (·.Stamp) ev
 if c.2 ≠ 0 then ([],[],c.2) else ((foldK (upTo u c.1) [] []).1,(foldK (upTo u c.1) [] []).2,0)
theorem fold_loop {F:Nat} {u:Int} {c:List Gq0} {z:Int} (hF:400<F) (hb:c.length<1000000):∀ (s p:List Gq0) (n:Nat) (l:List Gq2) (r:List Gq3),c=p++s→s.length<n→ValK l→r.length≤p.length→q56q F u (c,z) n (p.length:Int) r l=some (⟨(foldK (upTo u s) l r).1⟩,(foldK (upTo u s) l r).2,0):=by
 intro s
 induction s with
 | nil=>intro p n l r hp hn hv hr; cases n with
  | zero=>omega
  | succ n =>
   have:c=p:=by simpa using hp
   subst this
   simp only [q56q,q132q,Int.lt_irrefl,decide_false,Bool.false_eq_true,if_false,upTo,List.takeWhile_nil,foldK]
 | cons e s ih=>intro p n l r hp hn hv hr; cases n with
  | zero=>omega
  | succ n =>
   have hlen:p.length<1000000:=by rw [hp] at hb; simp at hb; omega
   have d1:decide ((p.length:Int)<(c.length:Int))=true:=by rw [hp]; exact dlt p e s
   have i1:idx c (p.length:Int)=some e:=by rw [hp]; exact idx_at p e s
   simp only [q56q,q132q,d1,if_true,i1,Option.bind_some]
   by_cases hu:e.Stamp.Time≤u
   ·have d2 : decide (e.Stamp.Time > u) = false := by simp; omega
    have hw:upTo u (e :: s)=e :: upTo u s:=by unfold upTo; rw [List.takeWhile_cons_of_pos (by simpa using hu)]
    have hwl:(Gq3.mk (idOf e) 0)=(Gq3.mk (idOf e) 0):=rfl
    have fin:∀ c':Int × List Gq2,stepB l e=c'→(if (c'.1 != 0)=true then (app r [Gq3.mk (Gq1.mk e.Stamp.Source e.Stamp.Seq) c'.1]).bind fun v=>q56q F u (c,z) n (i64 ((p.length:Int)+1)) v c'.2 else q56q F u (c,z) n (i64 ((p.length:Int)+1)) r c'.2)
      = some (⟨(foldK (upTo u (e :: s)) l r).1⟩,(foldK (upTo u (e :: s)) l r).2,0):=fun c' hc'=>by
     rw [hw]
     simp only [foldK,hc',nxt p e (show p.length<1000000000 by omega)]
     have hv':ValK c'.2:=by rw [← hc']; exact stepB_val hv
     by_cases h0:c'.1=0
     ·simp only [h0,bne_self_eq_false,Bool.false_eq_true,if_false,if_true]
      exact ih (p++[e]) n _ r (by rw [hp]; simp) (by simpa using hn) hv' (by simp; omega)
     ·have hb0:(c'.1 != 0)=true:=by simp [h0]
      simp only [h0,hb0,if_true,if_false]
      rw [app_of (by simp; omega),Option.bind_some]
      exact ih (p++[e]) n _ _ (by rw [hp]; simp) (by simpa using hn) hv' (by simp; omega)
    simp only [d2,Bool.false_eq_true,if_false,beq_iff_eq]
    by_cases h1:e.Kind=1
    ·have e1:stepB l e=draftB l e:=by unfold stepB; rw [if_pos h1]
     simp only [h1,if_true,draft_s hv hF,Option.bind_some]
     exact fin _ e1
    ·by_cases h2:e.Kind=2
     ·simp only [h2,show ¬ ((2:Int)=1) by omega,if_false,if_true,revise_s hv hF h2,Option.bind_some]
      exact fin _ rfl
     ·by_cases h3:e.Kind=3
      ·simp only [h3,show ¬ ((3:Int)=1) by omega,show ¬ ((3:Int)=2) by omega,if_false,if_true,approve_s hv hF h3,Option.bind_some]
       exact fin _ rfl
      ·by_cases h4:e.Kind=4
       ·simp only [h4,show ¬ ((4:Int)=1) by omega,show ¬ ((4:Int)=2) by omega,show ¬ ((4:Int)=3) by omega,if_false,if_true,use_s hv hF h4,Option.bind_some]
        exact fin _ rfl
       ·by_cases h5:e.Kind=5
        ·have:=withdraw_s hv hF (.inl h5)
         rw [show decide (e.Kind=5)=true by simp [h5]] at this
         simp only [h5,if_false,if_true,this,Option.bind_some,show ¬ ((5:Int)=1) by omega,show ¬ ((5:Int)=2) by omega,show ¬ ((5:Int)=3) by omega,show ¬ ((5:Int)=4) by omega]
         exact fin _ rfl
        ·by_cases h6:e.Kind=6
         ·have:=withdraw_s hv hF (.inr h6)
          rw [show decide (e.Kind=5)=false by simp [h5]] at this
          simp only [h6,if_false,if_true,this,Option.bind_some,show ¬ ((6:Int)=1) by omega,show ¬ ((6:Int)=2) by omega,show ¬ ((6:Int)=3) by omega,show ¬ ((6:Int)=4) by omega,show ¬ ((6:Int)=5) by omega]
          exact fin _ rfl
         ·have e1:stepB l e=(2,l):=by unfold stepB; simp [h1,h2,h3,h4,h5,h6]
          simp only [h1,h2,h3,h4,h5,h6,if_false]
          exact fin _ e1
   ·have d2:decide (e.Stamp.Time > u)=true:=by simp; omega
    have hw:upTo u (e :: s)=[]:=by unfold upTo; rw [List.takeWhile_cons_of_neg (by simpa using hu)]
    simp [d2,hw,foldK]
theorem canonEv_le {E:Type} [DecidableEq E] (st:E→Gq4) (l:List E):(canonEv st l).1.length≤l.length:=by
 unfold canonEv
 split
 ·simp
 ·exact evL_le st l
theorem fold_s {F:Nat} (hF:400<F) {ev:List Gq0} {u:Int} (hc:Short F ev) (hb:ev.length<1000000) (hFe:ev.length<F):bank_Fold F ev u=some (⟨(foldC ev u).1⟩,(foldC ev u).2.1,(foldC ev u).2.2):=by
 unfold bank_Fold foldC
 rw [canonicalP_s (by omega) hc hb hFe]
 simp only [Option.bind_some]
 have hle:=canonEv_le (fun x:Gq0=>x.Stamp) ev
 generalize canonEv (fun x:Gq0=>x.Stamp) ev=c at hle
 by_cases h0:c.2=0
 ·simp only [h0,bne_self_eq_false,Bool.false_eq_true,if_false,ne_eq,not_true_eq_false]
  have:=fold_loop (c:=c.1) (u:=u) (z:=c.2) hF (by omega) c.1 [] F [] [] rfl (by omega) valK_nil (by simp)
  exact this
 ·have:(c.2 != 0)=true:=by simp [h0]
  simp [this,h0]
theorem foldK_val:∀ {s:List Gq0} {l:List Gq2} {r:List Gq3},ValK l→ValK (foldK s l r).1
 | [],l,r,h=>h
 | e :: s,l,r,h=>by unfold foldK; exact foldK_val (stepB_val h)
theorem foldC_val {ev:List Gq0} {u:Int}:ValK (foldC ev u).1:=by
 unfold foldC
 simp only
 split
 ·exact valK_nil
 ·exact foldK_val valK_nil
theorem foldK_len:∀ {s:List Gq0} {l:List Gq2} {r:List Gq3},(foldK s l r).2.length≤r.length+s.length
 | [],l,r=>by simp [foldK]
 | e :: s,l,r=>by
  unfold foldK
  have:=foldK_len (s:=s) (l:=(stepB l e).2) (r:=if (stepB l e).1=0 then r else r++[⟨idOf e,(stepB l e).1⟩])
  refine Nat.le_trans this ?_
  split <;> simp <;> omega
theorem foldC_len {ev:List Gq0} {u:Int}:(foldC ev u).2.1.length≤ev.length:=by
 unfold foldC
 simp only
 split
 ·simp
 ·have h1:=foldK_len (s:=upTo u (canonEv (fun x:Gq0=>x.Stamp) ev).1) (l:=[]) (r:=[])
  have h2:(upTo u (canonEv (fun x:Gq0=>x.Stamp) ev).1).length≤(canonEv (fun x:Gq0=>x.Stamp) ev).1.length:=(List.takeWhile_sublist _).length_le
  have h3:=canonEv_le (fun x:Gq0=>x.Stamp) ev
  simp only [List.length_nil,Nat.zero_add] at h1
  exact Nat.le_trans h1 (Nat.le_trans h2 h3)
end Go.Sh
set_option linter.unusedVariables false
set_option linter.unusedSimpArgs false
namespace Go.Sh
open Go.L

def lastT (l:List Bool):Nat→Option Nat
 | 0=>.none
 | j+1=>if l.getD j false=true then some j else lastT l j
def elR (time rest most:Int) (r:Gq2):Option GRef :=
 if r.Withdrawn=true ∨ (r.Uses.length:Int) > most then .none
 else if r.Uses.any (fun u=>decide (u.Time > time - rest))=true then .none
 else (lastT r.Approved r.Approved.length).map fun (j:Nat)=>⟨r.ID,(j:Int)+1⟩
def eligC (l:List Gq2) (time rest most:Int):List GRef :=
 if validB l=false ∨ time<0 ∨ time > 1000000 ∨ rest<0 ∨ rest > 1000000 ∨ most<0 then [] else l.filterMap (elR time rest most)
theorem elig2 {rec1:Int→List GRef→Option (List GRef)} {n10:Int} {l11:List GRef} {x:Gq2} (ha:x.Approved.length<1000000) (hl:l11.length<1000000):∀ (j n:Nat),j≤x.Approved.length→j<n →
  q41q rec1 n10 l11 x n ((j:Int) - 1)=rec1 (i64 (n10+1)) (l11++((lastT x.Approved j).map fun (k:Nat)=>GRef.mk x.ID ((k:Int)+1)).toList):=by
 intro j
 induction j with
 | zero=>intro n hj hn; cases n with
  | zero=>omega
  | succ n =>
   have d:decide (((0:Nat):Int) - 1 ≥ 0)=false:=by simp
   simp only [q41q,q81q,d,Bool.false_eq_true,if_false,lastT,Option.map_none,Option.toList_none,List.append_nil]
 | succ j ih=>intro n hj hn; cases n with
  | zero=>omega
  | succ n =>
   have d:decide (((j+1:Nat):Int) - 1 ≥ 0)=true:=by simp
   have e:((j+1:Nat):Int) - 1=(j:Int):=by omega
   have hjl:j<x.Approved.length:=by omega
   simp only [q41q,q81q,d,if_true]
   rw [e,idx_lt hjl]
   have hg:x.Approved.getD j false=x.Approved[j]:=by rw [List.getD_eq_getElem?_getD,List.getElem?_eq_getElem hjl]; rfl
   simp only [Option.bind_some,lastT,hg]
   cases hx:x.Approved[j] with
   | true =>
    simp only [if_true,Option.map_some,Option.toList_some]
    rw [app_of (by simp; omega),Option.bind_some]
    have hw:i64 ((j:Int)+1)=(j:Int)+1:=by rw [i64_of (by omega) (by omega)]
    rw [hw]
   | false =>
    simp only [Bool.false_eq_true,if_false]
    rw [i64_of (by omega) (by omega)]
    exact ih n (by omega) (by omega)
theorem run_filterMap {α β:Type} (f:α→Option β):∀ (l:List α) (i:Nat) (s:List β),run (fun _ x s=>(.inr (s++(f x).toList):List β ⊕ List β)) id i l s=s++l.filterMap f
 | [],i,s=>by simp [run]
 | x :: l,i,s=>by
  unfold run
  simp only
  rw [run_filterMap f l,List.filterMap_cons]
  cases f x <;> simp
theorem eligible_s {F:Nat} {l:List Gq2} {time rest most:Int} (hF:400<F):q109q F ⟨l⟩ time rest most=some (eligC l time rest most):=by
  unfold q109q eligC
  rw [valid_sB hF]
  simp only [Option.bind_some,sOr]
  by_cases hc:validB l=false ∨ time<0 ∨ time > 1000000 ∨ rest<0 ∨ rest > 1000000 ∨ most<0
  · have d:(!(validB l) || (decide (time<0) || (decide (time > 1000000) || (decide (rest<0) || (decide (rest > 1000000) || decide (most<0))))))=true:=by simpa using hc
    simp only [d,if_true,hc]
  · have d:(!(validB l) || (decide (time<0) || (decide (time > 1000000) || (decide (rest<0) || (decide (rest > 1000000) || decide (most<0))))))=false:=by simpa using hc
    simp only [d,Bool.false_eq_true,if_false,hc]
    simp only [not_or,Bool.not_eq_false] at hc
    obtain ⟨hv,h1,h2,h3,h4,h5⟩:=hc
    have hV:=validB_iff.1 hv
    have hS:=hV.sh hF
    have hw:i64 (time - rest)=time - rest:=by rw [i64_of (by omega) (by omega)]
    have hlen:=hV.len
    have:=runLoop0 (a:=l) (L:=q40q F ⟨l⟩ time rest most) (s0:=([]:List GRef)) (F:=F) (fun _ x s=>(.inr (s++(elR time rest most x).toList):List GRef ⊕ List GRef)) id (fun i s=>s.length≤i) hS.l1 (fun n i x s hx hI=>?_) (fun n s hI=>?_) hS.l2 (by simp)
    · rw [this,run_filterMap]; simp
    · have hxm:=List.mem_of_getElem? hx
      have hi:i<1000000:=by have:=(List.getElem?_eq_some_iff.1 hx).1; omega
      have hok:=hV.ok x hxm
      refine ⟨?_, by simp only [List.length_append]; have : (elR time rest most x).toList.length ≤ 1 := by cases elR time rest most x <;> simp
                     omega⟩
      simp only [q40q,q80q,dltN hx,if_true,idxN hx,Option.bind_some,nxtI hi]
      unfold elR
      by_cases a1:x.Withdrawn=true ∨ (x.Uses.length:Int) > most
      · have d1:(x.Withdrawn || decide ((x.Uses.length:Int) > most))=true:=by simpa using a1
        simp only [d1,if_true,a1,Option.toList_none,List.append_nil]
      · have d1:(x.Withdrawn || decide ((x.Uses.length:Int) > most))=false:=by simpa using a1
        simp only [d1,Bool.false_eq_true,if_false,a1]
        rw [uses_s (p:=fun a0=>q119q a0 time rest) (fun u=>decide (u.Time > time - rest)) (fun u _=>by unfold q119q; rw [hw]) (hS.r x hxm).u.1 (hS.r x hxm).u.2]
        simp only [Option.bind_some]
        by_cases a2:(x.Uses.any fun u=>decide (u.Time > time - rest))=true
        · simp only [a2,if_true,Option.toList_none,List.append_nil]
        · simp only [a2,if_false,Bool.false_eq_true]
          have ha:=(hS.r x hxm).a
          rw [i64_of (by omega) (by omega),elig2 ha.1 (by omega) x.Approved.length F (Nat.le_refl _) ha.2]
          rw [nxtI hi]
    · simp only [q40q,q80q,dgeN,Bool.false_eq_true,if_false]; rfl
theorem awake_s {F:Nat} (hF:2000≤F):q168q F=some true:=by
 unfold q168q
 rw [fold_s (by omega) (fun e he=>by
  simp only [List.mem_cons,List.not_mem_nil,or_false] at he
  unfold ShI
  rcases he with rfl | rfl | rfl <;> simp <;> omega) (by simp) (by simp; omega)]
 have h1:foldC [(Gq0.mk (Gq4.mk 3 0 2) 4 (GItem.mk 0 0 (ByteArray.mk #[]) [] []) (GRef.mk 5 1) 9),(Gq0.mk (Gq4.mk 1 0 0) 1 (GItem.mk 5 1 (ByteArray.mk #[113]) [(GPart.mk 1 3 0 0 0 0)] []) (GRef.mk 0 0) 0),(Gq0.mk (Gq4.mk 2 0 1) 3 (GItem.mk 0 0 (ByteArray.mk #[]) [] []) (GRef.mk 5 1) 0)] 100
  = ([Gq2.mk 5 [GItem.mk 5 1 (ByteArray.mk #[113]) [(GPart.mk 1 3 0 0 0 0)] []] [true] [GUse.mk 1 9 3] false],[],0):=by decide +kernel
 rw [h1]
 simp only [Option.bind_some]
 rw [eligible_s (by omega),eligible_s (by omega)]
 have h2:eligC [Gq2.mk 5 [GItem.mk 5 1 (ByteArray.mk #[113]) [(GPart.mk 1 3 0 0 0 0)] []] [true] [GUse.mk 1 9 3] false] 10 7 1=[GRef.mk 5 1]:=by decide +kernel
 have h3:eligC [Gq2.mk 5 [GItem.mk 5 1 (ByteArray.mk #[113]) [(GPart.mk 1 3 0 0 0 0)] []] [true] [GUse.mk 1 9 3] false] 10 8 1=[]:=by decide +kernel
 rw [h2,h3]
 simp [idx]
theorem sameRecord_s {F:Nat} {a b:Gq2} (h:RecSh F a):q97q F a b=some (decide (a=b)):=by
 unfold q97q
 cases hc:((a.ID != b.ID) || ((!(a.Withdrawn == b.Withdrawn)) || (((a.Versions.length:Int) != (b.Versions.length:Int)) || (((a.Approved.length:Int) != (b.Approved.length:Int)) || ((a.Uses.length:Int) != (b.Uses.length:Int)))))) with
 | true =>
  have:a ≠ b:=fun hab=>by subst hab; simp at hc
  simp [this]
 | false =>
  simp only [Bool.or_eq_false_iff,bne_eq_false_iff_eq,Bool.not_eq_false',beq_iff_eq] at hc
  obtain ⟨c1,c2,c3,c4,c5⟩:=hc
  simp only [Bool.false_eq_true,if_false]
  have l3:q25q a b F 0=some (decide (a.Uses=b.Uses)):=by
   refine eqLoop (by omega) h.u.1 (fun n i x y hx hy hi=>?_) (fun n=>?_) h.u.2
   ·simp only [q25q,q47q,dltN hx,if_true,idxN hx,idxN hy,Option.bind_some,nxtI hi]
    by_cases hxy:x=y <;> simp [hxy]
   ·simp only [q25q,q47q,dgeN,Bool.false_eq_true,if_false]
  have l2:q17q F a b F 0=some (decide (a.Approved=b.Approved) && decide (a.Uses=b.Uses)):=by
   rw [scanLoop (a:=a.Approved) (L:=q17q F a b) (fun i x=>if b.Approved[i]?=some x then .none else some false) (decide (a.Uses=b.Uses)) h.a.1 (fun n i x hx hi=>?_) (fun n=>?_) h.a.2]
   ·have:=scan_eqE a.Approved b.Approved [] (decide (a.Uses=b.Uses)) (by omega)
    exact congrArg some this
   ·have hi':i<b.Approved.length:=by have:=(List.getElem?_eq_some_iff.1 hx).1; omega
    simp only [q17q,q46q,dltN hx,if_true,idxN hx,idx_lt hi',Option.bind_some,nxtI hi]
    by_cases hxy:x=b.Approved[i]
    ·simp [hxy,hi']
    ·have hxy':¬ b.Approved[i]=x:=fun hh=>hxy hh.symm
     simp [hxy,hxy',hi']
   ·simp only [q17q,q46q,dgeN,Bool.false_eq_true,if_false,l3]
  rw [scanLoop (a:=a.Versions) (L:=q24q F a b) (fun i x=>if b.Versions[i]?=some x then .none else some false) (decide (a.Approved=b.Approved) && decide (a.Uses=b.Uses)) h.vl.1 (fun n i x hx hi=>?_) (fun n=>?_) h.vl.2]
  ·have:=scan_eqE a.Versions b.Versions [] (decide (a.Approved=b.Approved) && decide (a.Uses=b.Uses)) (by omega)
   refine (congrArg some this).trans (congrArg some (bEq ?_))
   obtain ⟨i,v,p,u,w⟩:=a
   obtain ⟨i',v',p',u',w'⟩:=b
   simp only at c1 c2
   subst c1; subst c2
   simp only [Bool.and_eq_true,decide_eq_true_eq,Gq2.mk.injEq,true_and,and_true]
  ·have hi':i<b.Versions.length:=by have:=(List.getElem?_eq_some_iff.1 hx).1; omega
   simp only [q24q,q45q,dltN hx,if_true,idxN hx,idx_lt hi',Option.bind_some,nxtI hi,rsameItem_s (h.v x (List.mem_of_getElem? hx))]
   by_cases hxy:x=b.Versions[i]
   ·simp [hxy,hi']
   ·have hxy':¬ b.Versions[i]=x:=fun hh=>hxy hh.symm
    simp [hxy,hxy',hi']
  ·simp only [q24q,q45q,dgeN,Bool.false_eq_true,if_false,l2]
theorem sameBank_s {F:Nat} {a b:List Gq2} (h:BankSh F a):q158q F ⟨a⟩ ⟨b⟩=some (decide (a=b)):=by
 unfold q158q
 by_cases hl:a.length=b.length
 ·have h1:((a.length:Int) != (b.length:Int))=false:=by simp [hl]
  simp only [h1,Bool.false_eq_true,if_false]
  refine eqLoop hl h.l1 (fun n i x y hx hy hi=>?_) (fun n=>?_) h.l2
  ·simp only [q113q,q122q,dltN hx,if_true,idxN hx,idxN hy,Option.bind_some,nxtI hi,sameRecord_s (h.r x (List.mem_of_getElem? hx))]
   by_cases hxy:x=y <;> simp [hxy]
  ·simp only [q113q,q122q,dgeN,Bool.false_eq_true,if_false]
 ·have h1:((a.length:Int) != (b.length:Int))=true:=by simp; omega
  have h2:a ≠ b:=fun hab=>hl (by rw [hab])
  simp [h1,h2]
theorem refs_s {F:Nat} {a b:List Gq3} (hb:a.length<1000000) (hF:a.length<F):q92q F a b=some (decide (a=b)):=by
 unfold q92q
 by_cases hl:a.length=b.length
 ·have h1:((a.length:Int) != (b.length:Int))=false:=by simp [hl]
  simp only [h1,Bool.false_eq_true,if_false]
  refine eqLoop hl hb (fun n i x y hx hy hi=>?_) (fun n=>?_) hF
  ·simp only [q64q,q71q,dltN hx,if_true,idxN hx,idxN hy,Option.bind_some,nxtI hi]
   by_cases hxy:x=y <;> simp [hxy]
  ·simp only [q64q,q71q,dgeN,Bool.false_eq_true,if_false]
 ·have h1:((a.length:Int) != (b.length:Int))=true:=by simp; omega
  have h2:a ≠ b:=fun hab=>hl (by rw [hab])
  simp [h1,h2]
end Go.Sh
set_option linter.unusedVariables false
set_option linter.unusedSimpArgs false
namespace Go.Sh
open Go.L

abbrev Suc {α:Type} (x:Option α) (P:α→Prop):Prop:=∃ a,x=some a∧P a
theorem Suc.bind {α β:Type} {x:Option α} {f:α→Option β} {P:α→Prop} {Q:β→Prop} (h:Suc x P) (k:∀ a,P a→Suc (f a) Q):Suc (x.bind f) Q:=by
 obtain ⟨a,rfl,ha⟩:=h; exact k a ha
theorem Suc.pure {α:Type} {a:α} {P:α→Prop} (h:P a):Suc (some a) P:=⟨a,rfl,h⟩
theorem Suc.ite {α:Type} {c:Prop} [Decidable c] {a b:Option α} {P:α→Prop} (h1:c→Suc a P) (h2:¬ c→Suc b P):Suc (if c then a else b) P:=by
 by_cases h:c
 ·rw [if_pos h]; exact h1 h
 ·rw [if_neg h]; exact h2 h
theorem Suc.app {α β:Type} {xs ys:List α} {f:List α→Option β} {Q:β→Prop} (h:xs.length+ys.length≤549755813888) (k:Suc (f (xs++ys)) Q):Suc ((app xs ys).bind f) Q:=by
 rw [app_of h]; exact k
theorem Suc.idx {α β:Type} {l:List α} {i:Int} {f:α→Option β} {Q:β→Prop} (h0:0≤i) (h1:i<(l.length:Int)) (k:∀ x,x ∈ l→l[i.toNat]?=some x→Suc (f x) Q):Suc ((idx l i).bind f) Q:=by
 obtain ⟨j,rfl⟩:=Int.eq_ofNat_of_zero_le h0
 have hj:j<l.length:=by omega
 rw [idx_lt hj,Option.bind_some]
 exact k _ (List.getElem_mem hj) (by simp [hj])
theorem Suc.imp {α:Type} {x:Option α} {P Q:α→Prop} (h:Suc x P) (k:∀ a,P a→Q a):Suc x Q:=by obtain ⟨a,h1,h2⟩:=h; exact ⟨a,h1,k a h2⟩
theorem nextS {t:GTape} (h:Tp t) (n:Int) (hn:n≤1000000000):Suc (Gq18 t n) fun r=>Tp r.2∧0≤r.1∧(1≤n→r.1<n)∧(n<1→r.1=0):=by
 obtain ⟨x,t',h1,h2,h3,h4,h5⟩:=next_s h n hn; exact ⟨_,h1,h2,h3,h4,h5⟩
theorem rangeS {t:GTape} (h:Tp t) (a b:Int) (ha:-1000≤a) (hab:a≤b) (hb:b≤100000000):Suc (Gq27 t a b) fun r=>Tp r.2∧a≤r.1∧r.1≤b:=by
 obtain ⟨x,t',h1,h2,h3,h4⟩:=range_s h a b ha hab hb; exact ⟨_,h1,h2,h3,h4⟩
theorem oneS {t:GTape} (h:Tp t) (n:Int) (hn:n≤1000000000):Suc (Gq20 t n) fun r=>Tp r.2:=by
 obtain ⟨x,t',h1,h2⟩:=one_s h n hn; exact ⟨_,h1,h2⟩
theorem pickS {t:GTape} (h:Tp t) (l:List Int) (hl:1≤l.length) (hl2:l.length≤1000):Suc (Gq25 t l) fun r=>Tp r.2∧r.1 ∈ l:=by
 obtain ⟨x,t',h1,h2,h3⟩:=pick_s h l hl hl2; exact ⟨_,h1,h2,h3⟩
theorem wildS {t:GTape} (h:Tp t):Suc (Gq33 t) fun r=>Tp r.2:=by
 obtain ⟨x,t',h1,h2⟩:=wild_s h; exact ⟨_,h1,h2⟩
theorem stampS {t:GTape} (h:Tp t) (n:Int) (hn:n≤1000000):Suc (Gq31 t n) fun r=>Tp r.2:=by
 obtain ⟨x,t',h1,h2⟩:=tstamp_s h n hn; exact ⟨_,h1,h2⟩
theorem mayS {L:List Int} {A n:Int} (h:Tp (GTape.mk L A)) (hn:n≤1000000):Suc (if decide (n > 0)=true then (Gq20 (GTape.mk L A) n).bind fun r=>some (r.1,r.2.L,r.2.At) else some (false,L,A)) fun w=>Tp (GTape.mk w.2.1 w.2.2)∧(n≤0→w.1=false):=by
 refine Suc.ite (fun hc=>?_) fun hc=>Suc.pure ⟨h,fun _=>rfl⟩
 simp only [decide_eq_true_eq] at hc
 exact (oneS h n (by omega)).bind fun r hr=>Suc.pure ⟨hr,fun h0=>by omega⟩
theorem partS {t:GTape} (h:Tp t) (n:Int) (hn:n≤1000000):Suc (Gq22 t n) fun r=>Tp r.2:=by
 unfold Gq22
 refine (rangeS h 1 12 (by omega) (by omega) (by omega)).bind fun r1 h1=>?_
 refine (nextS h1.1 4 (by omega)).bind fun r2 h2=>?_
 refine (nextS h2.1 3 (by omega)).bind fun r3 h3=>?_
 refine (nextS h3.1 3 (by omega)).bind fun r4 h4=>?_
 have key:∀ (L:List Int) (A a b c d:Int),Tp (GTape.mk L A)→Suc (Gq23 n r2 r3 L A a b c d) fun r=>Tp r.2:=fun L A a b c d hL=>by
  unfold Gq23
  refine (mayS hL hn).bind fun w hw=>?_
  refine Suc.ite (fun _=>?_) fun _=>Suc.pure hw.1
  refine (nextS hw.1 6 (by omega)).bind fun r5 h5=>?_
  refine Suc.ite (fun _=>(rangeS h5.1 (-1) 3 (by omega) (by omega) (by omega)).bind fun r hr=>Suc.pure hr.1) fun _=>?_
  refine Suc.ite (fun _=>(pickS h5.1 [0,40,41,(-1)] (by simp) (by simp)).bind fun r hr=>Suc.pure hr.1) fun _=>?_
  refine Suc.ite (fun _=>(wildS h5.1).bind fun r hr=>Suc.pure hr) fun _=>?_
  refine Suc.ite (fun _=>(wildS h5.1).bind fun r hr=>Suc.pure hr) fun _=>?_
  refine Suc.ite (fun _=>(rangeS h5.1 (-1) 6 (by omega) (by omega) (by omega)).bind fun r hr=>Suc.pure hr.1) fun _=>?_
  exact (rangeS h5.1 (-1) 5 (by omega) (by omega) (by omega)).bind fun r hr=>Suc.pure hr.1
 refine Suc.ite (fun _=>?_) fun _=>key _ _ _ _ _ _ h4.1
 refine (rangeS h4.1 2 5 (by omega) (by omega) (by omega)).bind fun r5 h5=>?_
 refine (nextS h5.1 r5.1 (by omega)).bind fun r6 h6=>?_
 exact (rangeS h6.1 1 3 (by omega) (by omega) (by omega)).bind fun r7 h7=>key _ _ _ _ _ _ h7.1
theorem sofb_len:∀ (l:List Int),(sofb l).size=l.length:=by
 have key:∀ (l:List Int) (b:ByteArray),(l.foldl (fun r n=>r.push (UInt8.ofNat n.toNat)) b).size=b.size+l.length:=by
  intro l
  induction l with
  | nil=>intro b; simp
  | cons x l ih=>intro b; rw [List.foldl_cons,ih]; simp; omega
 intro l; unfold sofb; rw [key]; simp
theorem Suc.scat {β:Type} {a b:ByteArray} {f:ByteArray→Option β} {Q:β→Prop} (h:a.size+b.size≤1000000000) (k:Suc (f (a++b)) Q):Suc ((Go.L.scat a b).bind f) Q:=by
 unfold Go.L.scat; rw [if_pos h]; exact k
theorem wordS {F:Nat} {t:GTape} (h:Tp t) (hF:20<F):Suc (Gq35 F t 3) fun r=>Tp r.2∧r.1.size≤3:=by
 unfold Gq35
 refine (rangeS h 1 3 (by omega) (by omega) (by omega)).bind fun r1 h1=>?_
 refine loop4 (L:=Gq36) (B:=Gq37) (fun _=>rfl) (fun b n l a=>(b.size:Int)+n≤3∧0≤n∧Tp (GTape.mk l a)) (fun _ n _ _=>n.toNat) (fun r=>Tp r.2∧r.1.size≤3) ?_ F (ByteArray.mk #[]) r1.1 r1.2.L r1.2.At ⟨by show ((0:Nat):Int)+_≤3; omega,by omega,h1.1⟩ (by omega)
 intro rec b n l a hI ih
 obtain ⟨q1,q2,q3⟩:=hI
 unfold Gq37
 refine Suc.ite (fun hc=>?_) fun hc=>Suc.pure ⟨q3,by show b.size≤3; omega⟩
 simp only [decide_eq_true_eq] at hc
 refine (nextS q3 3 (by omega)).bind fun r hr=>?_
 have hs:(sofb [(IntKind.u8.wrap (i64 (97+r.1)))]).size=1:=sofb_len _
 refine Suc.scat (by rw [hs]; omega) ?_
 rw [i64_of (n:=n - 1) (by omega) (by omega)]
 exact ih _ _ _ _ ⟨by rw [ByteArray.size_append,hs]; omega,by omega,hr.1⟩ (by omega)
def ItB (x:GItem):Prop:=x.Parts.length≤20∧x.Enemies.length≤20
theorem ItB.sh {F:Nat} {x:GItem} (h:ItB x) (hF:50<F):ShI F x:=by
 have:=h.1; have:=h.2
 exact ⟨⟨by omega,by omega⟩,by omega,by omega⟩
theorem itemS {F:Nat} {t:GTape} (h:Tp t) (id v n:Int) (hn:n≤1000000) (hF:50<F):Suc (Gq12 F t id v n) fun r=>Tp r.2∧ItB r.1∧(n≤0→r.1.ID=id):=by
 unfold Gq12
 refine (wordS h (by omega)).bind fun r1 h1=>?_
 refine Suc.scat (by show 1+_≤_; have:=h1.2; omega) ?_
 generalize (ByteArray.mk #[113])++r1.1=sb
 refine (rangeS h1.1 1 3 (by omega) (by omega) (by omega)).bind fun r3 h3=>?_
 have second:∀ (parts:List GPart) (L:List Int) (A:Int),1≤parts.length→parts.length≤3→Tp (GTape.mk L A)→Suc (Gq15 id v n sb parts F 0 L A ([]:List Int)) fun r=>Tp r.2∧ItB r.1∧(n≤0→r.1.ID=id):=fun parts L A hp1 hp3 hL=>by
  refine loop4 (L:=Gq15 id v n sb parts) (B:=Gq16 id v n sb parts) (fun _=>rfl) (fun i l a e=>0≤i∧i≤6∧(e.length:Int)≤i∧Tp (GTape.mk l a)) (fun i _ _ _=>(6 - i).toNat) (fun r=>Tp r.2∧ItB r.1∧(n≤0→r.1.ID=id)) ?_ F 0 L A [] ⟨by omega,by omega,by simp,hL⟩ (by omega)
  intro rec i l a e hI ih
  obtain ⟨q1,q2,q3,q4⟩:=hI
  have hi:i64 (i+1)=i+1:=i64_of (by omega) (by omega)
  unfold Gq16
  refine Suc.ite (fun hc=>?_) fun hc=>?_
  ·simp only [decide_eq_true_eq] at hc
   have may:Suc (if (i != id)=true then (Gq20 (GTape.mk l a) 8).bind fun r21=>some (r21.1,r21.2.L,r21.2.At) else some (false,l,a)) fun w=>Tp (GTape.mk w.2.1 w.2.2) :=
    Suc.ite (fun _=>(oneS q4 8 (by omega)).bind fun r hr=>Suc.pure hr) fun _=>Suc.pure q4
   refine may.bind fun w hw=>?_
   rw [hi]
   refine Suc.ite (fun _=>?_) fun _=>ih _ _ _ _ ⟨by omega,by omega,by omega,hw⟩ (by omega)
   exact Suc.app (by simp; omega) (ih _ _ _ _ ⟨by omega,by omega,by simp; omega,hw⟩ (by omega))
  ·have hb:ItB ⟨id,v,sb,parts,e⟩:=⟨by show parts.length≤20; omega,by show e.length≤20; omega⟩
   refine (mayS q4 hn).bind fun w hw=>?_
   refine Suc.ite (fun hm=>?_) fun _=>Suc.pure ⟨hw.1,hb,fun _=>rfl⟩
   have hno:¬ n≤0:=fun h0=>by rw [hw.2 h0] at hm; cases hm
   refine (nextS hw.1 7 (by omega)).bind fun r5 h5=>?_
   refine Suc.ite (fun _=>(wildS h5.1).bind fun r hr=>Suc.pure ⟨hr,hb,fun h0=>absurd h0 hno⟩) fun _=>?_
   refine Suc.ite (fun _=>(pickS h5.1 [0,8,9,(-1)] (by simp) (by simp)).bind fun r hr=>Suc.pure ⟨hr.1,hb,fun h0=>absurd h0 hno⟩) fun _=>?_
   refine Suc.ite (fun _=>(nextS h5.1 3 (by omega)).bind fun r hr=>?_) fun _=>?_
   ·exact Suc.idx hr.2.1 (by simpa using hr.2.2.1 (by omega)) fun x _ _=>Suc.pure ⟨hr.1,hb,fun h0=>absurd h0 hno⟩
   refine Suc.ite (fun _=>Suc.pure ⟨h5.1,⟨by simp,hb.2⟩,fun h0=>absurd h0 hno⟩) fun _=>?_
   refine Suc.ite (fun _=>(partS h5.1 1 (by omega)).bind fun r hr=>Suc.app (by simp; omega) (Suc.pure ⟨hr,⟨by simp; omega,hb.2⟩,fun h0=>absurd h0 hno⟩)) fun _=>?_
   refine Suc.ite (fun _=>(pickS h5.1 [0,id,(-1),10000,3] (by simp) (by simp)).bind fun r hr=>Suc.app (by simp; omega) (Suc.pure ⟨hr.1,⟨hb.1,by simp; omega⟩,fun h0=>absurd h0 hno⟩)) fun _=>?_
   refine Suc.idx (by omega) (by omega) fun x1 _ _=>?_
   refine Suc.idx (by omega) (by omega) fun x2 _ _=>?_
   refine Suc.idx (by omega) (by omega) fun x3 _ _=>?_
   refine Suc.idx (by omega) (by omega) fun x4 _ _=>?_
   refine Suc.idx (by omega) (by omega) fun x5 _ _=>?_
   refine Suc.idx (by omega) (by omega) fun x6 _ _=>?_
   exact Suc.app (by simp; omega) (Suc.pure ⟨h5.1,⟨by simp; omega,hb.2⟩,fun h0=>absurd h0 hno⟩)
 refine loop4 (L:=Gq13 F id v n sb) (B:=Gq14 F id v n sb) (fun _=>rfl) (fun k l a p=>0≤k∧(p.length:Int)+k≤3∧1≤(p.length:Int)+k∧Tp (GTape.mk l a)) (fun k _ _ _=>k.toNat) (fun r=>Tp r.2∧ItB r.1∧(n≤0→r.1.ID=id)) ?_ F r3.1 r3.2.L r3.2.At [] ⟨by omega,by simp; omega,by simp; omega,h3.1⟩ (by omega)
 intro rec k l a p hI ih
 obtain ⟨q1,q2,q3,q4⟩:=hI
 unfold Gq14
 refine Suc.ite (fun hc=>?_) fun hc=>second p l a (by simp at hc; omega) (by omega) q4
 simp only [decide_eq_true_eq] at hc
 refine (partS q4 0 (by omega)).bind fun r hr=>?_
 rw [i64_of (n:=k - 1) (by omega) (by omega)]
 exact Suc.app (by simp; omega) (ih _ _ _ _ ⟨by omega,by simp; omega,by simp; omega,hr⟩ (by omega))
def EvB (n:Int) (e:Gq0):Prop:=ItB e.Item∧(n≤0→0≤e.Item.ID∧e.Item.ID<5)
def EvsB (n:Int) (l:List Gq0):Prop:=∀ e ∈ l,EvB n e
theorem EvsB.short {F:Nat} {n:Int} {l:List Gq0} (h:EvsB n l) (hF:50<F):Short F l:=fun e he=>(h e he).1.sh hF
section
variable {rec1:Int→List Int→Int→List Int→List Gq0→Option (List Gq0 × GTape)} {n3:Int} {l7:List Gq0} {Post:List Gq0 × GTape→Prop} {n:Int}
def NextOk (rec1:Int→List Int→Int→List Int→List Gq0→Option (List Gq0 × GTape)) (n3:Int) (l7:List Gq0) (n:Int) (Post:List Gq0 × GTape→Prop):Prop :=
 ∀ (t:GTape) (vs:List Int) (l:List Gq0),Tp t→vs.length=5→l.length≤l7.length+2→EvsB n l→Suc (rec1 (i64 (n3 - 1)) t.L t.At vs l) Post
theorem evs3 (hl:l7.length≤1000) (hc:EvsB n l7) (h:NextOk rec1 n3 l7 n Post) {n18 n25 n27 n28 n29 n30 n31 n32 n33 A:Int} {sb:ByteArray} {ps:List GPart} {es vs L:List Int} (hv:vs.length=5) (hps:ps.length≤20) (hes:es.length≤20) (hid:n≤0→0≤n18∧n18<5) (ht:Tp (GTape.mk L A)) :
  Suc (Gq7 rec1 n3 l7 n18 sb ps es n25 vs n27 n28 n29 n30 n31 n32 n33 L A) Post:=by
 unfold Gq7
 refine Suc.app (by simp; omega) ?_
 have hc':EvsB n (l7++[Gq0.mk (Gq4.mk n27 n28 n29) n30 (GItem.mk n18 n31 sb ps es) (GRef.mk n32 n33) n25]):=fun x hx=>by
  rcases List.mem_append.1 hx with hx | hx
  ·exact hc x hx
  ·simp only [List.mem_singleton] at hx; subst hx; exact ⟨⟨hps,hes⟩,hid⟩
 have hl':(l7++[Gq0.mk (Gq4.mk n27 n28 n29) n30 (GItem.mk n18 n31 sb ps es) (GRef.mk n32 n33) n25]).length=l7.length+1:=by simp
 generalize l7++[Gq0.mk (Gq4.mk n27 n28 n29) n30 (GItem.mk n18 n31 sb ps es) (GRef.mk n32 n33) n25]=v at hc' hl'
 refine (oneS ht 8 (by omega)).bind fun r hr=>?_
 refine Suc.ite (fun _=>?_) fun _=>h _ _ _ hr hv (by omega) hc'
 refine (nextS hr (v.length:Int) (by omega)).bind fun r2 h2=>?_
 refine Suc.idx h2.2.1 (h2.2.2.1 (by omega)) fun x hx _=>?_
 refine Suc.app (by simp; omega) (h _ _ _ h2.1 hv (by simp; omega) fun y hy=>?_)
 rcases List.mem_append.1 hy with hy | hy
 ·exact hc' y hy
 ·simp only [List.mem_singleton] at hy; subst hy; exact hc' _ hx
theorem evs2 (hn:n≤1000000) (hl:l7.length≤1000) (hc:EvsB n l7) (h:NextOk rec1 n3 l7 n Post) {r10 r11:Int × GTape} {n16 n17 n18 n19 n23 n24 n25:Int} {sb:ByteArray} {ps:List GPart} {es vs L:List Int} (hv:vs.length=5) (hps:ps.length≤20) (hes:es.length≤20) (hid:n≤0→0≤n18∧n18<5) (ht:Tp (GTape.mk L n16)) :
  Suc (Gq6 rec1 n n3 l7 r10 r11 L n16 n17 n18 n19 sb ps es n23 n24 n25 vs) Post:=by
 unfold Gq6
 refine (mayS ht hn).bind fun w hw=>?_
 refine Suc.ite (fun _=>?_) fun _=>evs3 hl hc h hv hps hes hid hw.1
 refine (nextS hw.1 5 (by omega)).bind fun r5 h5=>?_
 refine Suc.ite (fun _=>(rangeS h5.1 (-1) 8 (by omega) (by omega) (by omega)).bind fun r hr=>evs3 hl hc h hv hps hes hid hr.1) fun _=>?_
 refine Suc.ite (fun _=>(rangeS h5.1 (-1) 3 (by omega) (by omega) (by omega)).bind fun r hr=>evs3 hl hc h hv hps hes hid hr.1) fun _=>?_
 refine Suc.ite (fun _=>(nextS h5.1 7 (by omega)).bind fun r hr=>evs3 hl hc h hv hps hes hid hr.1) fun _=>?_
 refine Suc.ite (fun _=>(stampS h5.1 3 (by omega)).bind fun r hr=>evs3 hl hc h hv hps hes hid hr) fun _=>?_
 exact (rangeS h5.1 0 3 (by omega) (by omega) (by omega)).bind fun r hr=>evs3 hl hc h hv hps hes hid hr.1
end
theorem bankEvents_s {F:Nat} {t:GTape} (h:Tp t) (most:Nat) (n:Int) (hm:most≤300) (hn:n≤1000000) (hF:400<F):∃ l t',Gq5 F t most n=some (l,t')∧Tp t'∧l.length≤2 * most∧EvsB n l:=by
 have key:Suc (Gq5 F t most n) fun r=>Tp r.2∧r.1.length≤2 * most∧EvsB n r.1:=by
  unfold Gq5
  rw [show (5:Int)=((5:Nat):Int) from rfl,mkl_of (by omega),Option.bind_some]
  refine (rangeS h 0 most (by omega) (by omega) (by omega)).bind fun r2 h2=>?_
  refine loop5 (L:=Gq9 F n) (B:=Gq10 F n) (fun _=>rfl) (fun k l a vs evs=>0≤k∧(evs.length:Int)+2 * k≤2 * most∧vs.length=5∧EvsB n evs∧Tp (GTape.mk l a)) (fun k _ _ _ _=>k.toNat) (fun r=>Tp r.2∧r.1.length≤2 * most∧EvsB n r.1) ?_ F r2.1 r2.2.L r2.2.At (List.replicate 5 0) [] ⟨by omega,by simp; omega,by simp,fun e he=>by simp at he,h2.1⟩ (by omega)
  intro rec k l a vs evs hI ih
  obtain ⟨q1,q2,q3,q4,q5⟩:=hI
  unfold Gq10
  refine Suc.ite (fun hc=>?_) fun hc=>Suc.pure ⟨q5,by show evs.length≤_; omega,q4⟩
  simp only [decide_eq_true_eq] at hc
  have hnext:NextOk rec k evs n fun r=>Tp r.2∧r.1.length≤2 * most∧EvsB n r.1:=fun t' vs' l' a1 a2 a3 a4=>by
   rw [i64_of (n:=k - 1) (by omega) (by omega)]
   exact ih _ _ _ _ _ ⟨by omega,by omega,a2,a4,a1⟩ (by omega)
  refine (nextS q5 5 (by omega)).bind fun r9 h9=>?_
  have b9:=h9.2.2.1 (by omega)
  refine (nextS h9.1 2 (by omega)).bind fun r10 h10=>?_
  refine (nextS h10.1 2 (by omega)).bind fun r11 h11=>?_
  refine (pickS h11.1 [3,4,4,2,5,6] (by simp) (by simp)).bind fun r12 h12=>?_
  refine Suc.idx h9.2.1 (by omega) fun x13 _ _=>?_
  refine (nextS h12.1 4 (by omega)).bind fun r14 h14=>?_
  have hw:Suc ((idx vs r9.1).bind fun x61=>if (x61 == 0)=true then some true else some (r12.1 == 2)) fun _=>True :=
   Suc.idx h9.2.1 (by omega) fun x _ _=>Suc.ite (fun _=>Suc.pure trivial) fun _=>Suc.pure trivial
  have j4:∀ k4:Int,Suc (Gq8 rec F n k vs evs r9 r10 r11 r14 k4) fun r=>Tp r.2∧r.1.length≤2 * most∧EvsB n r.1:=fun k4=>by
   unfold Gq8
   refine Suc.idx h9.2.1 (by omega) fun x65 _ _=>?_
   refine Suc.idx h9.2.1 (by omega) fun x66 _ _=>?_
   refine Suc.idx h9.2.1 (by simp; omega) fun x67 _ _=>?_
   refine (itemS h14.1 r9.1 x67 n hn (by omega)).bind fun r68 h68=>?_
   exact evs2 hn (by omega) q4 hnext (by simp [q3]) h68.2.1.1 h68.2.1.2 (fun h0=>by rw [h68.2.2 h0]; omega) h68.1
  refine hw.bind fun w _=>Suc.ite (fun _=>?_) fun _=>?_
  ·refine Suc.idx h9.2.1 (by omega) fun x69 _ _=>?_
   exact Suc.ite (fun _=>j4 _) fun _=>j4 _
  ·exact evs2 hn (by omega) q4 hnext q3 (by simp) (by simp) (fun _=>by omega) h14.1
 obtain ⟨⟨l,t'⟩,h1,h2⟩:=key
 exact ⟨l,t',h1,h2⟩
end Go.Sh
set_option linter.unusedVariables false
set_option linter.unusedSimpArgs false
namespace Go.Sh
open Go.L

theorem rvalidPart_s (p:GPart):q123q p=some (okPt p):=by
 unfold q123q okPt
 cases (decide (p.Max<1) || (decide (p.Max > 40) || (decide (p.Topic<0) || (decide (p.Topic ≥ 16) || (decide (p.Objective<0) || decide (p.Objective ≥ 6)))))) with
 | true=>simp
 | false =>
  by_cases h1:p.Kind=1
  ·simp only [h1,Bool.false_eq_true,if_false,if_true,beq_self_eq_true,Bool.not_false,Bool.true_and,beqD]
  ·have:(p.Kind == 1)=false:=by simp [h1]
   simp only [h1,this,Bool.false_eq_true,if_false,Bool.not_false,Bool.true_and,beqD]
theorem prtS_all (s:ByteArray):prtS s=allI (fun _ (b:UInt8)=>!(decide ((b.toNat:Int)<32) || decide ((b.toNat:Int) > 126))) 0 s.data.toList:=by
 unfold prtS; rw [allI_all]
theorem okEn_all (id:Int) (l:List Int):okEn id l=allI (fun i x=>!(badEn id l i x)) 0 l:=by
 unfold okEn allI
 congr 1
 funext i x
 cases hb:badEn id l i x <;> simp [hb]
theorem rcheck_s {F:Nat} {x:GItem} (hF:50<F):q128q F x=some (chkI x):=by
 unfold q128q chkI
 have e1:(decide (x.ID<0) || (decide (x.ID > 9999) || (decide (x.Version<1) || decide (x.Version > 8))))=(!(decide (x.ID ≥ 0) && decide (x.ID≤9999)) || (decide (x.Version<1) || decide (x.Version > 8))):=by
  refine bEq ?_
  simp only [Bool.or_eq_true,decide_eq_true_eq,Bool.not_eq_true',Bool.and_eq_false_iff,decide_eq_false_iff_not]
  omega
 rw [e1]
 cases h1:(!(decide (x.ID ≥ 0) && decide (x.ID≤9999)) || (decide (x.Version<1) || decide (x.Version > 8))) with
 | true=>simp
 | false =>
  simp only [Bool.false_eq_true,if_false]
  cases h2:(decide ((x.Stem.size:Int) > 40) || (decide ((x.Parts.length:Int) > 6) || decide ((x.Enemies.length:Int) > 8))) with
  | true=>simp
  | false =>
   simp only [Bool.or_eq_false_iff,decide_eq_false_iff_not] at h2
   simp only [Bool.false_eq_true,if_false]
   by_cases h0:x.Stem=ByteArray.mk #[]
   ·simp [h0]
   ·simp only [h0,decide_false,Bool.false_eq_true,if_false,Bool.false_or]
    have hsz:(x.Stem.size:Int)=(x.Stem.data.toList.length:Int):=by
     show ((x.Stem.data.size:Nat):Int)=_
     rw [Array.length_toList]
    have hl:x.Stem.data.toList.length=x.Stem.size:=Array.length_toList
    have l3:q51q x F 0=some (if okEn x.ID x.Enemies=true then 0 else 9):=by
     rw [okEn_all,scanLoopO (a:=x.Enemies) (L:=q51q x) (fun i y=>if (!(badEn x.ID x.Enemies i y))=true then .none else some 9) (some 0) (by omega) (fun n i y hy hi=>?_) (fun n=>?_) (by omega),scanO_if]
     ·split <;> rfl
     ·simp only [q51q,q100q,dltN hy,if_true,idxN hy,Option.bind_some,nxtI hi]
      unfold badEn
      have e2:(!(decide (y ≥ 0) && decide (y≤9999)))=(decide (y<0) || decide (y > 9999)):=by
       refine bEq ?_
       simp only [Bool.or_eq_true,decide_eq_true_eq,Bool.not_eq_true',Bool.and_eq_false_iff,decide_eq_false_iff_not]
       omega
      rw [e2]
      by_cases h0:0<i
      ·have d:decide ((i:Int) > 0)=true:=by simp; exact h0
       simp only [d,if_true,prevN hi hy h0,Option.bind_some,sOr,h0,decide_true,Bool.true_and,beqD,Bool.or_assoc]
       cases (decide (y<0) || (decide (y > 9999) || (decide (y=x.ID) || decide (x.Enemies.getD (i - 1) 0 ≥ y)))) <;> simp
      ·have d:decide ((i:Int) > 0)=false:=by simp; omega
       simp only [d,Bool.false_eq_true,if_false,Option.bind_some,sOr,h0,decide_false,Bool.false_and,beqD,Bool.or_assoc]
       cases (decide (y<0) || (decide (y > 9999) || (decide (y=x.ID) || false))) <;> simp
     ·simp only [q51q,q100q,dgeN,Bool.false_eq_true,if_false]
    have l2:q50q F x F 0=some (if x.Parts.all okPt=true then (if okEn x.ID x.Enemies=true then 0 else 9) else 1):=by
     rw [scanLoopO (a:=x.Parts) (L:=q50q F x) (fun _ y=>if okPt y=true then .none else some 1) (some (if okEn x.ID x.Enemies=true then 0 else 9)) (by omega) (fun n i y hy hi=>?_) (fun n=>?_) (by omega),scanO_if (fun _ y=>okPt y),allI_all]
     ·split <;> rfl
     ·simp only [q50q,q99q,dltN hy,if_true,idxN hy,Option.bind_some,nxtI hi,rvalidPart_s]
      cases okPt y <;> simp
     ·simp only [q50q,q99q,dgeN,Bool.false_eq_true,if_false,l3]
    rw [prtS_all,scanLoopO (a:=x.Stem.data.toList) (L:=q76q F x) (fun _ (b:UInt8)=>if (!(decide ((b.toNat:Int)<32) || decide ((b.toNat:Int) > 126)))=true then .none else some 7) (some (if x.Parts=[] then 10 else if x.Parts.all okPt=true then (if okEn x.ID x.Enemies=true then 0 else 9) else 1)) (by omega) (fun n i y hy hi=>?_) (fun n=>?_) (by omega),scanO_if (fun _ (b:UInt8)=>!(decide ((b.toNat:Int)<32) || decide ((b.toNat:Int) > 126)))]
    ·cases allI (fun _ (b:UInt8)=>!(decide ((b.toNat:Int)<32) || decide ((b.toNat:Int) > 126))) 0 x.Stem.data.toList <;> simp
    ·simp only [q76q,q98q,hsz,dltN hy,if_true,sidxN hy,Option.bind_some,nxtI hi,sOr]
     cases (decide ((y.toNat:Int)<32) || decide ((y.toNat:Int) > 126)) <;> simp
    ·simp only [q76q,q98q,hsz,dgeN,Bool.false_eq_true,if_false,l2]
     by_cases h3:x.Parts=[]
     ·simp [h3]
     ·have h4:((x.Parts.length:Int) == 0)=false:=by
       rw [beq_eq_false_iff_ne]; intro h; exact h3 (List.eq_nil_of_length_eq_zero (by omega))
      simp only [h3,h4,Bool.false_eq_true,if_false]
theorem rvalid_s {F:Nat} {l:List Gq2} (hF:400<F):q171q F ⟨l⟩=some (validB l):=by
  unfold q171q validB
  by_cases h:l.length≤40
  · have d:decide ((l.length:Int) > 40)=false:=by simp; omega
    simp only [d,Bool.false_eq_true,if_false,h,decide_true,Bool.true_and]
    refine scanLoop _ _ (by omega) (fun n i x hx hi=>?_) (fun n=>?_) (by omega)
    · have next:∀ (hh:(decide ((x.Versions.length:Int)<1) || (decide ((x.Versions.length:Int) > 8) || (((x.Approved.length:Int) != (x.Versions.length:Int)) || decide ((x.Uses.length:Int) > 300))))=false),
          q52q (q9q F ⟨l⟩ n) F (i:Int) x F 0=if recB x=true then q9q F ⟨l⟩ n ((i+1:Nat):Int) else some false:=fun hh=>by
        simp only [Bool.or_eq_false_iff,decide_eq_false_iff_not] at hh
        have l3:q53q (q9q F ⟨l⟩ n) (i:Int) x F 0=if x.Uses.all (useB x)=true then q9q F ⟨l⟩ n ((i+1:Nat):Int) else some false:=by
          rw [scanLoopO (a:=x.Uses) (L:=q53q (q9q F ⟨l⟩ n) (i:Int) x) (fun _ y=>if useB x y=true then .none else some false) (q9q F ⟨l⟩ n ((i+1:Nat):Int)) (by omega) (fun n' i' y hy hi'=>?_) (fun n'=>?_) (by omega),scanO_if (fun _ y=>useB x y),allI_all]
          · simp only [q53q,q103q,dltN hy,if_true,idxN hy,Option.bind_some,nxtI hi',sOr]
            have e:useB x y=!(decide (y.Version<1) || decide (y.Version > (x.Versions.length:Int))):=by
              unfold useB
              refine bEq ?_
              simp only [Bool.and_eq_true,decide_eq_true_eq,Bool.not_eq_true',Bool.or_eq_false_iff,decide_eq_false_iff_not]
              omega
            rw [e]
            cases (decide (y.Version<1) || decide (y.Version > (x.Versions.length:Int))) <;> simp
          · simp only [q53q,q103q,dgeN,Bool.false_eq_true,if_false,nxtI hi]
        rw [scanLoopO (a:=x.Versions) (L:=q52q (q9q F ⟨l⟩ n) F (i:Int) x) (fun i' y=>if verB x i' y=true then .none else some false) (if x.Uses.all (useB x)=true then q9q F ⟨l⟩ n ((i+1:Nat):Int) else some false) (by omega) (fun n' i' y hy hi'=>?_) (fun n'=>?_) (by omega),scanO_if]
        · have er:recB x=(allI (verB x) 0 x.Versions && x.Uses.all (useB x)):=by
            unfold recB
            rw [scan_and]
            have:(decide ((x.Versions.length:Int)<1) || (decide ((x.Versions.length:Int) > 8) || (((x.Approved.length:Int) != (x.Versions.length:Int)) || decide ((x.Uses.length:Int) > 300))))=false:=by
              simp only [Bool.or_eq_false_iff,decide_eq_false_iff_not]; exact hh
            rw [this]; simp
          rw [er]
          cases allI (verB x) 0 x.Versions <;> cases x.Uses.all (useB x) <;> simp
        · have hw:i64 ((i':Int)+1)=(i':Int)+1:=by have:=(List.getElem?_eq_some_iff.1 hy).1; rw [i64_of (by omega) (by omega)]
          have hn':i64 ((i':Int)+1)=((i'+1:Nat):Int):=nxtI hi'
          simp only [q52q,q102q,dltN hy,if_true,idxN hy,Option.bind_some,rcheck_s (show 50<F by omega),sOr]
          have e:verB x i' y=!((chkI y != 0) || (y.ID != x.ID || y.Version != (i':Int)+1)):=by
            unfold verB
            refine bEq ?_
            simp only [Bool.and_eq_true,decide_eq_true_eq,Bool.not_eq_true',Bool.or_eq_false_iff,bne_eq_false_iff_eq]
          rw [e,hn']
          rw [show (((i'+1:Nat):Int))=(i':Int)+1 from rfl]
          cases ((chkI y != 0) || (y.ID != x.ID || y.Version != (i':Int)+1)) <;> simp
        · simp only [q52q,q102q,dgeN,Bool.false_eq_true,if_false,l3]
      simp only [q9q,q101q,dltN hx,if_true,idxN hx,Option.bind_some,sOr]
      unfold rowB
      have hhd:(!(decide ((x.Versions.length:Int)<1) || (decide ((x.Versions.length:Int) > 8) || (((x.Approved.length:Int) != (x.Versions.length:Int)) || decide ((x.Uses.length:Int) > 300)))))=false→recB x=false:=fun hh=>by
        unfold recB; rw [hh]; rfl
      generalize hH:(decide ((x.Versions.length:Int)<1) || (decide ((x.Versions.length:Int) > 8) || (((x.Approved.length:Int) != (x.Versions.length:Int)) || decide ((x.Uses.length:Int) > 300))))=H at next hhd
      by_cases h0:0<i
      · have d:decide ((i:Int) > 0)=true:=by simp; exact h0
        simp only [d,if_true,prevR hi hx h0,Option.bind_some,sOr,h0,decide_true,Bool.true_and]
        cases hb:decide ((l.getD (i - 1) default).ID ≥ x.ID) with
        | true=>simp
        | false =>
          cases hHb:H with
          | true=>rw [hHb] at hhd; rw [hhd rfl]; simp
          | false=>rw [hHb] at next; simp only [Bool.or_self,Bool.false_eq_true,if_false,Bool.not_false,Bool.true_and]; rw [next rfl]; cases recB x <;> simp
      · have d:decide ((i:Int) > 0)=false:=by simp; omega
        simp only [d,Bool.false_eq_true,if_false,Option.bind_some,h0,decide_false,Bool.false_and,Bool.not_false,Bool.true_and,sOr,hH]
        cases hHb:H with
        | true=>rw [hHb] at hhd; rw [hhd rfl]; simp
        | false=>rw [hHb] at next; simp only [Bool.false_eq_true,if_false]; rw [next rfl]; cases recB x <;> simp
    · simp only [q9q,q101q,dgeN,Bool.false_eq_true,if_false]
  · have d:decide ((l.length:Int) > 40)=true:=by simp; omega
    simp [d,h]
theorem index_s {F:Nat} {l:List Gq2} {c:Int} (hb:l.length<1000000) (hF:l.length<F):q78q F ⟨l⟩ c=some (match placeR l c with | some k=>(k:Int) | .none=>-1):=by
 unfold q78q
 have e:∀ (s:List Gq2) (i:Nat),scan (fun i (x:Gq2)=>if decide (x.ID=c)=true then some (i:Int) else .none) (-1) i s=(match (placeR s c).map (·+i) with | some k=>(k:Int) | .none=>-1):=by
  intro s
  induction s with
  | nil=>intro i; rfl
  | cons x s ih =>
   intro i
   unfold scan placeR
   rw [List.findIdx?_cons]
   by_cases hc:x.ID=c
   ·simp [hc]
   ·have:(x.ID == c)=false:=by simp [hc]
    simp only [hc,decide_false,Bool.false_eq_true,if_false,this]
    rw [ih (i+1)]
    unfold placeR
    cases List.findIdx? (fun b=>b.ID == c) s with
    | none=>rfl
    | some k=>simp only [Option.map_some]; congr 1; omega
 have e0:=e l 0
 have:(placeR l c).map (·+0)=placeR l c:=by cases placeR l c <;> rfl
 rw [this] at e0
 rw [← e0]
 refine scanLoop _ _ hb (fun n i x hx hi=>?_) (fun n=>?_) hF
 ·simp only [q93q,q104q,dltN hx,if_true,idxN hx,Option.bind_some,nxtI hi,beqD]
  by_cases hc:x.ID=c <;> simp [hc]
 ·simp only [q93q,q104q,dgeN,Bool.false_eq_true,if_false]
def withR (l:List Gq2) (r:Gq2):List Gq2:=l.take (cutR l r.ID)++[r]++(l.drop (cutR l r.ID)).filter fun x=>decide (x.ID ≠ r.ID)
theorem with_s {F:Nat} {l:List Gq2} {r:Gq2} (hs:SortR l) (hb:l.length<1000000) (hF:l.length<F):q79q F ⟨l⟩ r=some ⟨withR l r⟩:=by
 unfold q79q
 have key : ∀ (s p : List Gq2) (n : Nat) (out : List Gq2) (b : Bool), l = p ++ s → s.length < n → (out.length ≤ p.length + 1 ∧ (b = false → out.length ≤ p.length)) → (b = false → ∀ x ∈ p, x.ID < r.ID) → (b = true → ∀ x ∈ s, r.ID ≤ x.ID) →
   q67q ⟨l⟩ r n b (p.length:Int) out=some ⟨if b=true then out++s.filter (fun x=>decide (x.ID ≠ r.ID)) else out++withR s r⟩:=by
  intro s
  induction s with
  | nil=>intro p n out b hp hn ho h1 h2; cases n with
   | zero=>omega
   | succ n =>
    have:l=p:=by simpa using hp
    subst this
    simp only [q67q,q125q,Int.lt_irrefl,decide_false,Bool.false_eq_true,if_false]
    cases b with
    | true=>simp
    | false =>
     simp only [Bool.not_false,if_true,Bool.false_eq_true,if_false]
     rw [app_of (by simp; omega)]
     simp [withR,cutR]
  | cons x s ih=>intro p n out b hp hn ho h1 h2; cases n with
   | zero=>omega
   | succ n =>
    have hlen:p.length<1000000:=by rw [hp] at hb; simp at hb; omega
    have d1:decide ((p.length:Int)<(l.length:Int))=true:=by rw [hp]; exact dlt p x s
    have i1:idx l (p.length:Int)=some x:=by rw [hp]; exact idx_at p x s
    have hss:∀ y ∈ s,x.ID<y.ID:=fun y hy=>by
     have:=hs; unfold SortR at this; rw [hp,List.pairwise_append,List.pairwise_cons] at this
     exact this.2.1.1 y hy
    have fin : ∀ (b' : Bool) (out' : List Gq2), (out'.length ≤ p.length + 1 ∧ (b' = false → out'.length ≤ p.length)) → (b' = false → out' = out ∧ x.ID < r.ID) → (b' = true → r.ID ≤ x.ID ∧ ((b = true ∧ out' = out) ∨ (b = false ∧ out' = out ++ [r]))) →
      q115q (q67q ⟨l⟩ r n) ⟨l⟩ r (p.length:Int) b' out'=some ⟨if b=true then out++(x :: s).filter (fun x=>decide (x.ID ≠ r.ID)) else out++withR (x :: s) r⟩:=fun b' out' hl' c1 c2=>by
     unfold q115q
     simp only [i1,Option.bind_some]
     rw [nxt p x (by omega)]
     have e3:∀ q,(if b'=true then (out'++q)++s.filter (fun x=>decide (x.ID ≠ r.ID)) else (out'++q)++withR s r)=(if b'=true then out'++(q++s.filter (fun x=>decide (x.ID ≠ r.ID))) else out'++(q++withR s r)):=fun q=>by
      cases b' <;> simp
     have hfin:∀ q,q=(if x.ID ≠ r.ID then [x] else [])→(if b'=true then out'++(q++s.filter (fun x=>decide (x.ID ≠ r.ID))) else out'++(q++withR s r))=(if b=true then out++(x :: s).filter (fun x=>decide (x.ID ≠ r.ID)) else out++withR (x :: s) r):=fun q hq=>by
      cases b' with
      | false =>
       obtain ⟨e1,e2⟩:=c1 rfl
       subst e1
       have hb:b=false:=by
        cases b with
        | false=>rfl
        | true=>have:=h2 rfl x (by simp); omega
       subst hb
       have hne:x.ID ≠ r.ID:=by omega
       rw [hq,if_pos hne]
       simp only [Bool.false_eq_true,if_false]
       unfold withR cutR
       rw [List.takeWhile_cons_of_pos (by simpa using e2)]
       simp
      | true =>
       obtain ⟨e1,e2⟩:=c2 rfl
       have hfil:(x :: s).filter (fun x=>decide (x.ID ≠ r.ID))=q++s.filter (fun x=>decide (x.ID ≠ r.ID)):=by
        rw [hq,List.filter_cons]
        by_cases hx:x.ID=r.ID <;> simp [hx]
       rcases e2 with ⟨hb,ho'⟩ | ⟨hb,ho'⟩
       ·subst hb; subst ho'; simp only [if_true]; rw [hfil]
       ·subst hb; subst ho'
        simp only [if_true,Bool.false_eq_true,if_false]
        have:withR (x :: s) r=[r]++(x :: s).filter (fun x=>decide (x.ID ≠ r.ID)):=by
         unfold withR cutR
         rw [List.takeWhile_cons_of_neg (by simp; omega)]
         simp
        rw [this,hfil]; simp
     by_cases hne:x.ID=r.ID
     ·have hb0:(x.ID != r.ID)=false:=by simp [hne]
      simp only [hb0,Bool.false_eq_true,if_false]
      have:=ih (p++[x]) n out' b' (by rw [hp]; simp) (by simpa using hn) ⟨by simp; omega,fun hb'=>by have:=hl'.2 hb'; simp; omega⟩ (fun hb' y hy=>by
       rcases List.mem_append.1 hy with hy | hy
       ·refine h1 ?_ y hy
        cases b with
        | false=>rfl
        | true=>have:=h2 rfl x (by simp); have:=(c1 hb').2; omega
       ·rw [List.mem_singleton] at hy; subst hy; exact (c1 hb').2) (fun hb' y hy=>by have:=(c2 hb').1; have:=hss y hy; omega)
      rw [this,← hfin [] (by simp [hne])]
      simp
     ·have hb0:(x.ID != r.ID)=true:=by simp [hne]
      simp only [hb0,if_true]
      rw [app_of (by simp; omega),Option.bind_some]
      have:=ih (p++[x]) n (out'++[x]) b' (by rw [hp]; simp) (by simpa using hn) ⟨by simp; omega,fun hb'=>by have:=hl'.2 hb'; simp; omega⟩ (fun hb' y hy=>by
       rcases List.mem_append.1 hy with hy | hy
       ·refine h1 ?_ y hy
        cases b with
        | false=>rfl
        | true=>have:=h2 rfl x (by simp); have:=(c1 hb').2; omega
       ·rw [List.mem_singleton] at hy; subst hy; exact (c1 hb').2) (fun hb' y hy=>by have:=(c2 hb').1; have:=hss y hy; omega)
      rw [this,e3,hfin [x] (by simp [hne])]
    simp only [q67q,q125q,d1,if_true]
    cases b with
    | true =>
     simp only [Bool.not_true,Bool.false_eq_true,if_false,Option.bind_some]
     exact fin true out ⟨ho.1,fun h=>by cases h⟩ (fun h=>by cases h) (fun _=>⟨h2 rfl x (by simp),.inl ⟨rfl,rfl⟩⟩)
    | false =>
     simp only [Bool.not_false,if_true,i1,Option.bind_some]
     by_cases hge:x.ID ≥ r.ID
     ·simp only [hge,decide_true,if_true]
      rw [app_of (by simp; omega),Option.bind_some]
      exact fin true (out++[r]) ⟨by simp; have:=ho.2 rfl; omega,fun h=>by cases h⟩ (fun h=>by cases h) (fun _=>⟨hge,.inr ⟨rfl,rfl⟩⟩)
     ·simp only [hge,decide_false,Bool.false_eq_true,if_false]
      exact fin false out ⟨ho.1,fun _=>ho.2 rfl⟩ (fun _=>⟨rfl,by omega⟩) (fun h=>by cases h)
 have:=key l [] F [] false rfl hF (by simp) (by simp) (by simp)
 simpa using this
theorem withR_set {l:List Gq2} (hs:SortR l) {k:Nat} (hk:k<l.length) {r:Gq2} (hp:placeR l r.ID=some k):withR l r=l.set k r:=by
 unfold withR
 rw [← placeR_cut hs hp]
 obtain ⟨_,hid⟩:=placeR_get hp
 rw [List.drop_eq_getElem_cons hk,List.filter_cons]
 have h1:decide (l[k].ID ≠ r.ID)=false:=by simp [hid]
 have h2:(l.drop (k+1)).filter (fun x=>decide (x.ID ≠ r.ID))=l.drop (k+1):=by
  rw [List.filter_eq_self]
  intro x hx
  obtain ⟨q,hq,rfl⟩:=List.getElem_of_mem hx
  simp only [List.length_drop] at hq
  rw [List.getElem_drop]
  have:=List.pairwise_iff_getElem.1 hs k (k+1+q) hk (by omega) (by omega)
  simp; omega
 rw [h1,h2,List.set_eq_take_append_cons_drop,if_pos hk]
 simp
theorem withR_ins {l:List Gq2} {r:Gq2} (hp:placeR l r.ID=.none):withR l r=l.take (cutR l r.ID)++[r]++l.drop (cutR l r.ID):=by
 unfold withR
 congr 1
 rw [List.filter_eq_self]
 intro x hx
 simpa using placeR_none hp x (List.mem_of_mem_drop hx)
def outB (c:Int × List Gq2):GBank × Int:=if c.1=0 then (⟨c.2⟩,0) else (⟨[]⟩,c.1)
theorem rdraft_s {F:Nat} {l:List Gq2} {e:Gq0} (h:ValK l) (hF:400<F):q172q F ⟨l⟩ e.Item=some (outB (draftB l e)):=by
 have hlen:=h.len
 unfold q172q draftB
 rw [rcheck_s (by omega),index_s (by omega) (by omega)]
 simp only [Option.bind_some]
 by_cases h1:chkI e.Item=0
 ·simp only [h1,bne_self_eq_false,Bool.false_eq_true,if_false,ne_eq,not_true_eq_false]
  by_cases h2:e.Item.Version=1
  ·simp only [h2,bne_self_eq_false,Bool.false_eq_true,if_false,not_true_eq_false]
   cases hp:placeR l e.Item.ID with
   | some k =>
    have d:decide ((k:Int) ≥ 0)=true:=by simp
    simp [d,outB]
   | none =>
    have d:decide ((-1:Int) ≥ 0)=false:=by simp
    simp only [d,Bool.false_eq_true,if_false,Option.isSome_none]
    by_cases h4:40≤l.length
    ·have d:((l.length:Int) == 40)=true:=by rw [beq_iff_eq]; omega
     simp only [d,h4,if_true]; rfl
    ·have d:((l.length:Int) == 40)=false:=by rw [beq_eq_false_iff_ne]; omega
     simp only [d,h4,if_false,Bool.false_eq_true]
     rw [with_s h.sort (by omega) (by omega)]
     simp only [Option.bind_some,outB,if_true]
     rw [withR_ins hp]; rfl
  ·have d:(e.Item.Version != 1)=true:=by simp [h2]
   simp only [d,h2,if_true,not_false_eq_true]; rfl
 ·have d:(chkI e.Item != 0)=true:=by simp [h1]
  simp [d,h1,outB]
theorem with_edit {F:Nat} {l:List Gq2} (h:ValK l) (hF:400<F) {j:Nat} (hj:j<l.length) {vs:List GItem} {ap:List Bool} {us:List GUse} {w:Bool} {c:Int} (hc:l[j].ID=c) (hp:placeR l c=some j):q79q F ⟨l⟩ ⟨l[j].ID,vs,ap,us,w⟩=some ⟨l.set j ⟨l[j].ID,vs,ap,us,w⟩⟩:=by
 rw [with_s h.sort (by have:=h.len; omega) (by have:=h.len; omega),withR_set h.sort hj (by show placeR l l[j].ID=_; rw [hc]; exact hp)]
theorem rrevise_s {F:Nat} {l:List Gq2} {e:Gq0} (h:ValK l) (hF:400<F) (hk:e.Kind=2):q154q F ⟨l⟩ e.Item=some (outB (stepB l e)):=by
 have hlen:=h.len
 unfold q154q stepB
 rw [rcheck_s (by omega),index_s (by omega) (by omega)]
 simp only [Option.bind_some,hk,show ¬ ((2:Int)=1) by omega,if_false,if_true]
 by_cases h1:chkI e.Item=0
 ·simp only [h1,bne_self_eq_false,Bool.false_eq_true,if_false,ne_eq,not_true_eq_false]
  unfold editB
  simp only [tgt,hk,if_true]
  cases hp:placeR l e.Item.ID with
  | none=>rfl
  | some j =>
   obtain ⟨hjl,hid⟩:=placeR_get hp
   have hr:=h.ok l[j] (List.getElem_mem hjl)
   have d:decide ((j:Int)<0)=false:=by simp
   simp only [d,Bool.false_eq_true,if_false,idx_lt hjl,List.getElem?_eq_getElem hjl,Option.bind_some,editR,hk,if_true]
   have hw:i64 ((l[j].Versions.length:Int)+1)=(l[j].Versions.length:Int)+1:=by have:=hr.n8; rw [i64_of (by omega) (by omega)]
   rw [hw]
   by_cases h2:l[j].Withdrawn=true ∨ e.Item.Version ≠ (l[j].Versions.length:Int)+1
   ·have d:(l[j].Withdrawn || e.Item.Version != (l[j].Versions.length:Int)+1)=true:=by simpa using h2
    simp only [d,if_true,h2,show ¬ ((8:Int)=0) by omega,if_false]; rfl
   ·have d:(l[j].Withdrawn || e.Item.Version != (l[j].Versions.length:Int)+1)=false:=by simpa using h2
    simp only [d,Bool.false_eq_true,if_false,h2]
    have q1:=hr.n8; have q2:=hr.ap
    rw [app_of (by simp; omega),Option.bind_some,app_of (by simp; omega),Option.bind_some,app_of (by simp; omega),Option.bind_some,app_of (by simp; omega),Option.bind_some]
    rw [with_edit h hF hjl hid hp]
    simp [outB]
 ·have d:(chkI e.Item != 0)=true:=by simp [h1]
  simp [d,h1,outB]
theorem badIdx {l:List Gq2} {e:Gq0} {j:Nat} (hjl:j<l.length):(if decide (((j:Nat):Int)<0)=true then some true else if decide (e.Ref.Version<1)=true then some true else (idx l (j:Int)).bind fun x6=>some (decide (e.Ref.Version > (x6.Versions.length:Int))))=some (decide (badV e l[j])):=by
 have d:decide ((j:Int)<0)=false:=by simp
 simp only [d,Bool.false_eq_true,if_false,idx_lt hjl,Option.bind_some,sOr]
 congr 1
 refine bEq ?_
 rw [decide_eq_true_eq]
 unfold badV
 simp only [Bool.or_eq_true,decide_eq_true_eq]
theorem rapprove_s {F:Nat} {l:List Gq2} {e:Gq0} (h:ValK l) (hF:400<F) (hk:e.Kind=3):q145q F ⟨l⟩ e.Ref=some (outB (stepB l e)):=by
 have hlen:=h.len
 unfold q145q stepB editB
 rw [index_s (by omega) (by omega)]
 simp only [Option.bind_some,hk,tgt,show ¬ ((3:Int)=1) by omega,show ¬ ((3:Int)=2) by omega,if_false,true_or,if_true]
 cases hp:placeR l e.Ref.ID with
 | none=>simp [outB]
 | some j =>
  obtain ⟨hjl,hid⟩:=placeR_get hp
  have hr:=h.ok l[j] (List.getElem_mem hjl)
  simp only [badIdx hjl,Option.bind_some,List.getElem?_eq_getElem hjl,editR,hk,show ¬ ((3:Int)=2) by omega,if_false,if_true]
  by_cases hb:badV e l[j]
  ·simp only [hb,decide_true,if_true,show ¬ ((4:Int)=0) by omega,if_false]; rfl
  ·obtain ⟨q1,q2⟩:=apIdx hr hb
   simp only [hb,decide_false,Bool.false_eq_true,if_false,idx_lt hjl,Option.bind_some]
   by_cases hw:l[j].Withdrawn=true
   ·simp only [hw,if_true,show ¬ ((8:Int)=0) by omega,if_false]; rfl
   ·simp only [hw,if_false,q1,Option.bind_some,Bool.false_eq_true]
    by_cases ha:apAt e l[j]=true
    ·simp only [ha,if_true,show ¬ ((5:Int)=0) by omega,if_false]; rfl
    ·have q3:=hr.n8; have q4:=hr.ap
     simp only [ha,if_false,Bool.false_eq_true]
     rw [app_of (by simp; omega),Option.bind_some,List.nil_append,q1,Option.bind_some,with_edit h hF hjl hid hp,q2]
     simp [outB]
theorem ruse_s {F:Nat} {l:List Gq2} {e:Gq0} (h:ValK l) (hF:400<F) (hk:e.Kind=4):ref07_use F ⟨l⟩ e.Ref e.Form e.Stamp.Time=some (outB (stepB l e)):=by
 have hlen:=h.len
 unfold ref07_use stepB editB
 rw [index_s (by omega) (by omega)]
 simp only [Option.bind_some,hk,tgt,show ¬ ((4:Int)=1) by omega,show ¬ ((4:Int)=2) by omega,show ¬ ((4:Int)=3) by omega,if_false,true_or,or_true,if_true]
 cases hp:placeR l e.Ref.ID with
 | none=>simp [outB]
 | some j =>
  obtain ⟨hjl,hid⟩:=placeR_get hp
  have hr:=h.ok l[j] (List.getElem_mem hjl)
  simp only [badIdx hjl,Option.bind_some,List.getElem?_eq_getElem hjl,editR,hk,show ¬ ((4:Int)=2) by omega,show ¬ ((4:Int)=3) by omega,if_false,if_true]
  by_cases hb:badV e l[j]
  ·simp only [hb,decide_true,if_true,show ¬ ((4:Int)=0) by omega,if_false]; rfl
  ·obtain ⟨q1,q2⟩:=apIdx hr hb
   have hu:=hr.us
   simp only [hb,decide_false,Bool.false_eq_true,if_false,idx_lt hjl,Option.bind_some,q1,sOr]
   by_cases hw:l[j].Withdrawn=true ∨ apAt e l[j]=false
   ·have d:(l[j].Withdrawn || !(apAt e l[j]))=true:=by simpa using hw
    simp only [d,hw,if_true,show ¬ ((8:Int)=0) by omega,if_false]; rfl
   ·have d:(l[j].Withdrawn || !(apAt e l[j]))=false:=by simpa using hw
    simp only [d,hw,if_false,Bool.false_eq_true]
    have l1:=scanLoopO (a:=l[j].Uses) (L:=q105q F ⟨l⟩ e.Ref e.Form e.Stamp.Time l[j]) (F:=F) (fun _ u=>if (!(u.Form == e.Form))=true then .none else some ((GBank.mk []:GBank),(5:Int))) (some (outB (if 300≤l[j].Uses.length then (3,l) else (0,l.set j ⟨l[j].ID,l[j].Versions,l[j].Approved,l[j].Uses++[⟨e.Ref.Version,e.Form,e.Stamp.Time⟩],l[j].Withdrawn⟩)))) (by omega) (fun n i u hu' hi=>?_) (fun n=>?_) (by omega)
    ·rw [l1,scanO_if (fun _ (u:GUse)=>!(u.Form == e.Form)),allI_all]
     have ea:(l[j].Uses.all fun u=>!(u.Form == e.Form))=!(l[j].Uses.any fun u=>u.Form == e.Form):=by
      rw [List.not_any_eq_all_not]
     rw [ea]
     cases (l[j].Uses.any fun u=>u.Form == e.Form) with
     | true=>simp [outB]
     | false =>
      simp only [Bool.not_false,if_true,Bool.false_eq_true,if_false]
      by_cases h3:300≤l[j].Uses.length
      ·simp [h3]
      ·simp [h3]
    ·simp only [q105q,q137q,dltN hu',if_true,idxN hu',Option.bind_some,nxtI hi]
     cases (u.Form == e.Form) <;> simp
    ·simp only [q105q,q137q,dgeN,Bool.false_eq_true,if_false]
     by_cases h3:300≤l[j].Uses.length
     ·have d3:((l[j].Uses.length:Int) == 300)=true:=by rw [beq_iff_eq]; omega
      simp only [d3,h3,if_true]; rfl
     ·have d3:((l[j].Uses.length:Int) == 300)=false:=by rw [beq_eq_false_iff_ne]; omega
      simp only [d3,h3,if_false,Bool.false_eq_true]
      rw [app_of (by simp; omega),Option.bind_some,app_of (by simp; omega),Option.bind_some,with_edit h hF hjl hid hp]
      simp [outB]
theorem rwithdraw_s {F:Nat} {l:List Gq2} {e:Gq0} (h:ValK l) (hF:400<F) (hk:e.Kind=5 ∨ e.Kind=6):q94q F ⟨l⟩ e.Ref.ID (decide (e.Kind=5))=some (outB (stepB l e)):=by
 have n1:¬ e.Kind=1:=by omega
 have n2:¬ e.Kind=2:=by omega
 have n3:¬ e.Kind=3:=by omega
 have n4:¬ e.Kind=4:=by omega
 have hlen:=h.len
 unfold q94q stepB editB
 rw [index_s (by omega) (by omega)]
 simp only [Option.bind_some,n1,n2,n3,n4,hk,tgt,if_false,false_or,if_true]
 cases hp:placeR l e.Ref.ID with
 | none=>simp [outB]
 | some j =>
  obtain ⟨hjl,hid⟩:=placeR_get hp
  have d:decide ((j:Int)<0)=false:=by simp
  simp only [d,Bool.false_eq_true,if_false,idx_lt hjl,List.getElem?_eq_getElem hjl,Option.bind_some,editR,n2,n3,n4,beq_iff_eq]
  by_cases hw:l[j].Withdrawn=decide (e.Kind=5)
  ·simp only [hw,if_true,show ¬ ((8:Int)=0) by omega,if_false]; rfl
  ·simp only [hw,if_false,if_true]
   rw [with_edit h hF hjl hid hp]
   simp [outB]
theorem rapply_s {F:Nat} {l:List Gq2} {e:Gq0} (hF:400<F):q170q F ⟨l⟩ e=some (⟨(applyB l e).1⟩,(applyB l e).2):=by
 unfold q170q
 rw [rvalid_s hF]
 simp only [Option.bind_some]
 cases hv:validB l with
 | false=>simp [applyB,hv]
 | true =>
  have h:=validB_iff.1 hv
  rw [applyB_val h]
  simp only [Bool.not_true,Bool.false_eq_true,if_false,beq_iff_eq]
  have fin:∀ c:Int × List Gq2,some ((outB c).1,(outB c).2)=some (GBank.mk (if c.1=0 then (c.2,(0:Int)) else ([],c.1)).1,(if c.1=0 then (c.2,(0:Int)) else ([],c.1)).2):=fun c=>by
   unfold outB
   by_cases h0:c.1=0 <;> simp [h0]
  by_cases h1:e.Kind=1
  ·have e1:stepB l e=draftB l e:=by unfold stepB; rw [if_pos h1]
   simp only [h1,if_true,rdraft_s h hF,Option.bind_some]
   rw [e1]; exact fin _
  ·by_cases h2:e.Kind=2
   ·simp only [h2,show ¬ ((2:Int)=1) by omega,if_false,if_true,rrevise_s h hF h2,Option.bind_some]
    exact fin _
   ·by_cases h3:e.Kind=3
    ·simp only [h3,show ¬ ((3:Int)=1) by omega,show ¬ ((3:Int)=2) by omega,if_false,if_true,rapprove_s h hF h3,Option.bind_some]
     exact fin _
    ·by_cases h4:e.Kind=4
     ·simp only [h4,show ¬ ((4:Int)=1) by omega,show ¬ ((4:Int)=2) by omega,show ¬ ((4:Int)=3) by omega,if_false,if_true,ruse_s h hF h4,Option.bind_some]
      exact fin _
     ·by_cases h5:e.Kind=5
      ·have:=rwithdraw_s h hF (.inl h5)
       rw [show decide (e.Kind=5)=true by simp [h5]] at this
       simp only [h1,h2,h3,h4,h5,if_false,if_true,this,Option.bind_some,show ¬ ((5:Int)=1) by omega,show ¬ ((5:Int)=2) by omega,show ¬ ((5:Int)=3) by omega,show ¬ ((5:Int)=4) by omega]
       exact fin _
      ·by_cases h6:e.Kind=6
       ·have:=rwithdraw_s h hF (.inr h6)
        rw [show decide (e.Kind=5)=false by simp [h5]] at this
        simp only [h6,if_false,if_true,this,Option.bind_some,show ¬ ((6:Int)=1) by omega,show ¬ ((6:Int)=2) by omega,show ¬ ((6:Int)=3) by omega,show ¬ ((6:Int)=4) by omega,show ¬ ((6:Int)=5) by omega]
        exact fin _
       ·have e1:stepB l e=(2,l):=by unfold stepB; simp [h1,h2,h3,h4,h5,h6]
        simp only [h1,h2,h3,h4,h5,h6,if_false,e1]
        simp
theorem rfold_loop {F:Nat} {u:Int} {c:List Gq0} {z:Int} (hF:400<F) (hb:c.length<1000000) (hs:c.Pairwise fun a b=>a.Stamp.Time≤b.Stamp.Time):∀ (s p:List Gq0) (n:Nat) (l:List Gq2) (r:List Gq3),c=p++s→s.length<n→ValK l→r.length≤p.length→q87q F u (c,z) n (p.length:Int) l r=some (⟨(foldK (upTo u s) l r).1⟩,(foldK (upTo u s) l r).2,0):=by
 intro s
 induction s with
 | nil=>intro p n l r hp hn hv hr; cases n with
  | zero=>omega
  | succ n =>
   have:c=p:=by simpa using hp
   subst this
   simp only [q87q,q124q,Int.lt_irrefl,decide_false,Bool.false_eq_true,if_false,upTo,List.takeWhile_nil,foldK]
 | cons e s ih=>intro p n l r hp hn hv hr; cases n with
  | zero=>omega
  | succ n =>
   have hlen:p.length<1000000:=by rw [hp] at hb; simp at hb; omega
   have d1:decide ((p.length:Int)<(c.length:Int))=true:=by rw [hp]; exact dlt p e s
   have i1:idx c (p.length:Int)=some e:=by rw [hp]; exact idx_at p e s
   have hps:=hs
   rw [hp] at hps
   have hps2:=(List.pairwise_append.1 hps).2.1
   simp only [q87q,q124q,d1,if_true,i1,Option.bind_some]
   by_cases hu:e.Stamp.Time≤u
   ·have d2:decide (e.Stamp.Time > u)=false:=by simp; omega
    have hw:upTo u (e :: s)=e :: upTo u s:=by unfold upTo; rw [List.takeWhile_cons_of_pos (by simpa using hu)]
    simp only [d2,Bool.false_eq_true,if_false,rapply_s hF,Option.bind_some,applyB_val hv,hw,foldK]
    rw [nxt p e (by omega)]
    by_cases h0:(stepB l e).1=0
    ·simp only [h0,if_true,bne_self_eq_false,Bool.false_eq_true,if_false]
     exact ih (p++[e]) n _ r (by rw [hp]; simp) (by simpa using hn) (stepB_val hv) (by simp; omega)
    ·have hb0:((stepB l e).1 != 0)=true:=by simp [h0]
     simp only [h0,if_false,hb0,if_true]
     rw [app_of (by simp; omega),Option.bind_some,stepB_same h0]
     exact ih (p++[e]) n l _ (by rw [hp]; simp) (by simpa using hn) hv (by simp; omega)
   ·have d2:decide (e.Stamp.Time > u)=true:=by simp; omega
    have hw:upTo u (e :: s)=[]:=by unfold upTo; rw [List.takeWhile_cons_of_neg (by simpa using hu)]
    have hw2:upTo u s=[]:=by
     unfold upTo
     cases s with
     | nil=>rfl
     | cons x s' =>
      have:=(List.pairwise_cons.1 hps2).1 x (by simp)
      rw [List.takeWhile_cons_of_neg (by simp; omega)]
    simp only [d2,if_true,hw]
    rw [nxt p e (by omega),ih (p++[e]) n l r (by rw [hp]; simp) (by simpa using hn) hv (by simp; omega),hw2]
theorem evL_sorted (l:List Gq0):(evL (fun x:Gq0=>x.Stamp) l).Pairwise fun a b=>a.Stamp.Time≤b.Stamp.Time:=(evL_is (fun x:Gq0=>x.Stamp) l).sorted.imp fun h=>by rw [cmpSt_lt] at h; omega
theorem rfold_s {F:Nat} (hF:400<F) {ev:List Gq0} {u:Int} (hc:Short F ev) (hb:ev.length<1000000) (hFe:ev.length<F):q164q F ev u=some (⟨(foldC ev u).1⟩,(foldC ev u).2.1,(foldC ev u).2.2):=by
 unfold q164q foldC
 rw [canonicalR_s hc hb hFe]
 simp only [Option.bind_some]
 have hle:=canonEv_le (fun x:Gq0=>x.Stamp) ev
 have hs:(canonEv (fun x:Gq0=>x.Stamp) ev).1.Pairwise fun a b=>a.Stamp.Time≤b.Stamp.Time:=by
  unfold canonEv
  split
  ·simp
  ·exact evL_sorted ev
 generalize canonEv (fun x:Gq0=>x.Stamp) ev=c at hle hs
 by_cases h0:c.2=0
 ·simp only [h0,bne_self_eq_false,Bool.false_eq_true,if_false,ne_eq,not_true_eq_false]
  have:=rfold_loop (c:=c.1) (u:=u) (z:=c.2) hF (by omega) hs c.1 [] F [] [] rfl (by omega) valK_nil (by simp)
  exact this
 ·have:(c.2 != 0)=true:=by simp [h0]
  simp [this,h0]
theorem law_BankFolds (t:List Int) (until_:Int):∃ F,q149q F t until_=some true:=by
 refine ⟨2000,?_⟩
 obtain ⟨t0,a1,a2⟩:=new_s t
 obtain ⟨l,t2,c1,c2,c3,c4⟩:=bankEvents_s (F:=2000) a2 14 5 (by omega) (by omega) (by omega)
 obtain ⟨k,t3,d1,d2,_⟩:=range_s c2 0 20 (by omega) (by omega) (by omega)
 have hsh:=c4.short (F:=2000) (by omega)
 unfold q149q
 rw [a1]; simp only [Option.bind_some]
 rw [show (14:Int)=((14:Nat):Int) from rfl,c1]; simp only [Option.bind_some]
 rw [d1]; simp only [Option.bind_some]
 rw [fold_s (by omega) hsh (by omega) (by omega),fold_s (by omega) hsh (by omega) (by omega),rfold_s (by omega) hsh (by omega) (by omega),rfold_s (by omega) hsh (by omega) (by omega)]
 simp only [Option.bind_some]
 have q1:=foldC_len (ev:=l) (u:=until_)
 have q2:=foldC_len (ev:=l) (u:=k)
 rw [sameBank_s (foldC_val.sh (by omega)),sameBank_s (foldC_val.sh (by omega)),refs_s (by omega) (by omega),refs_s (by omega) (by omega),awake_s (Nat.le_refl 2000)]
 simp
end Go.Sh
