import Derived.Test.YtmollikhdbaikaaGreatZSh
set_option linter.unusedVariables false
set_option linter.unusedSimpArgs false
namespace Go.Sh
open Go.L
theorem cO {n:Int} (h1:-9223372036854775808≤n) (h2:n≤9223372036854775807):i64 n=n:=by
 show IntKind.i64.wrap n=n
 rw [IntKind.wrap_i64]; omega
theorem np {α:Type} (l:List α) (i:Nat):idx l (i:Int)=l[i]?:=by
 unfold idx; simp
theorem gF {α:Type} {l:List α} {i:Int} {x:α}:idx l i=some x ↔ 0≤i∧l[i.toNat]?=some x:=by
 unfold idx; split
 ·simp_all
 ·constructor
  ·intro h; cases h
  ·intro h; omega
theorem dj {α:Type} {l:List α} {i:Nat} (h:i<l.length):idx l (i:Int)=some l[i]:=by
 rw [np]; simp [h]
theorem jz {α:Type} (p:List α) (x:α) (s:List α):idx (p++x :: s) (p.length:Int)=some x:=by
 rw [np]; simp
theorem c6 {α:Type} {xs ys:List α} (h:xs.length+ys.length≤549755813888):app xs ys=some (xs++ys):=by unfold app; rw [if_pos h]
theorem y2 {α:Type} {xs:List α} {n:Nat} (h:n≤xs.length):Eb xs 0 n=some (xs.take n):=by
 unfold Eb; rw [if_pos ⟨by omega,by omega,by omega⟩]; simp
theorem GX {α:Type} {xs:List α} {n:Nat} (h:n≤xs.length):Eb xs n (xs.length:Int)=some (xs.drop n):=by
 unfold Eb; rw [if_pos ⟨by omega,by omega,by omega⟩]; simp
theorem tb {α:Type} {z:α} {n:Nat} (h:n≤1000000):C7 z (n:Int)=some (List.replicate n z):=by
 unfold C7; rw [if_pos ⟨by omega,by omega⟩]; simp
theorem HC {α:Type} (p:List α) (x:α) (s:List α):decide ((p.length:Int)<((p++x :: s).length:Int))=true:=by simp; omega
theorem U8 {α:Type} (p:List α):decide ((p.length:Int)<((p++[]).length:Int))=false:=by simp
theorem LF {α:Type} (p:List α) (x:α) (h:p.length<1000000000):i64 ((p.length:Int)+1)=((p++[x]).length:Int):=by
 rw [cO (by omega) (by omega)]; simp
theorem snoc {α:Type} (p:List α) (x:α) (s:List α):p++x :: s=(p++[x])++s:=by simp
theorem Ju {α R:Type} {L:Nat→α→Option R} {B:(α→Option R)→α→Option R} (hL:∀ n,L (n+1)=B (L n)) (I:α→Prop) (μ:α→Nat) (jb:R→Prop)
  (step:∀ rec a,I a→(∀ a',I a'→μ a'<μ a→∃ r,rec a'=some r∧jb r)→∃ r,B rec a=some r∧jb r):∀ n a,I a→μ a<n→∃ r,L n a=some r∧jb r:=by
 intro n
 induction n with
 | zero=>intro a _ h; omega
 | succ n ih=>intro a hI h; rw [hL]; exact step _ a hI fun a' h1 h2=>ih a' h1 (by omega)
theorem BW {α β R:Type} {L:Nat→α→β→Option R} {B:(α→β→Option R)→α→β→Option R} (hL:∀ n,L (n+1)=B (L n)) (I:α→β→Prop) (μ:α→β→Nat) (jb:R→Prop)
  (step:∀ rec a b,I a b→(∀ a' b',I a' b'→μ a' b'<μ a b→∃ r,rec a' b'=some r∧jb r)→∃ r,B rec a b=some r∧jb r):∀ n a b,I a b→μ a b<n→∃ r,L n a b=some r∧jb r:=by
 intro n
 induction n with
 | zero=>intro a b _ h; omega
 | succ n ih=>intro a b hI h; rw [hL]; exact step _ a b hI fun a' b' h1 h2=>ih a' b' h1 (by omega)
theorem FK {α β γ δ R:Type} {L:Nat→α→β→γ→δ→Option R} {B:(α→β→γ→δ→Option R)→α→β→γ→δ→Option R} (hL:∀ n,L (n+1)=B (L n)) (I:α→β→γ→δ→Prop) (μ:α→β→γ→δ→Nat) (jb:R→Prop)
  (step:∀ rec a b c d,I a b c d→(∀ a' b' c' d',I a' b' c' d'→μ a' b' c' d'<μ a b c d→∃ r,rec a' b' c' d'=some r∧jb r)→∃ r,B rec a b c d=some r∧jb r):∀ n a b c d,I a b c d→μ a b c d<n→∃ r,L n a b c d=some r∧jb r:=by
 intro n
 induction n with
 | zero=>intro a b c d _ h; omega
 | succ n ih=>intro a b c d hI h; rw [hL]; exact step _ a b c d hI fun a' b' c' d' h1 h2=>ih a' b' c' d' h1 (by omega)
theorem Pj {α β γ δ ε R:Type} {L:Nat→α→β→γ→δ→ε→Option R} {B:(α→β→γ→δ→ε→Option R)→α→β→γ→δ→ε→Option R} (hL:∀ n,L (n+1)=B (L n)) (I:α→β→γ→δ→ε→Prop) (μ:α→β→γ→δ→ε→Nat) (jb:R→Prop)
  (step:∀ rec a b c d e,I a b c d e→(∀ a' b' c' d' e',I a' b' c' d' e'→μ a' b' c' d' e'<μ a b c d e→∃ r,rec a' b' c' d' e'=some r∧jb r)→∃ r,B rec a b c d e=some r∧jb r):∀ n a b c d e,I a b c d e→μ a b c d e<n→∃ r,L n a b c d e=some r∧jb r:=by
 intro n
 induction n with
 | zero=>intro a b c d e _ h; omega
 | succ n ih=>intro a b c d e hI h; rw [hL]; exact step _ a b c d e hI fun a' b' c' d' e' h1 h2=>ih a' b' c' d' e' h1 (by omega)
def k9 (a b:Int):Int:=if a<b then -1 else if b<a then 1 else 0
theorem ng (a b:Int):cJ a b=some (k9 a b):=by
 simp only [cJ,cmp_isNaN_int,k9,Option.bind_some,bne_self_eq_false,Bool.false_eq_true,if_false,decide_eq_true_eq,gt_iff_lt]
 repeat' split
 all_goals first | rfl | omega
theorem Io (a b:Int):yV a b=some (k9 a b):=by
 simp only [yV,k9,decide_eq_true_eq,gt_iff_lt]
 repeat' split
 all_goals first | rfl | omega
def Jx:List Int→Int
 | []=>0
 | x :: r=>if x=0 then Jx r else x
theorem Im (s:List Int):∀ (p:List Int) (n:Nat),(p++s).length<1000000→s.length<n→eO (p++s) n (p.length:Int)=some (Jx s):=by
 induction s with
 | nil=>intro p n hb hn; cases n with
  | zero=>omega
  | succ n=>simp only [eO,fx,U8,Bool.false_eq_true,if_false,Jx]
 | cons x s ih=>intro p n hb hn; cases n with
  | zero=>omega
  | succ n =>
   simp only [eO,fx,HC,jz,if_true,Option.bind_some,Jx,bne_iff_ne,ne_eq]
   by_cases h:x=0
   ·simp only [h,not_true_eq_false,if_false,if_true]
    have hl:p.length<1000000000:=by simp at hb; omega
    rw [LF p 0 hl,snoc]
    exact ih (p++[0]) n (by simpa using hb) (by simpa using hn)
   ·simp [h]
theorem LU {F:Nat} {xs:List Int} (hb:xs.length<1000000) (hF:xs.length<F):gO F xs=some (Jx xs):=by
 have:=Im xs [] F (by simpa using hb) hF
 simpa [gO] using this
def dR (x y:aL):Int:=if k9 x.Source y.Source ≠ 0 then k9 x.Source y.Source else k9 x.Seq y.Seq
def gY (x y:aL):Int:=if k9 x.Time y.Time ≠ 0 then k9 x.Time y.Time else dR x y
theorem qz {F:Nat} (hF:10≤F) (x y:aL):Dk F x y=some (dR x y):=by
 simp only [Dk,ng,Option.bind_some]
 rw [LU (by simp) (by simp; omega)]
 simp only [Option.bind_some,Jx,dR]
 repeat' split
 all_goals simp_all
theorem tW {F:Nat} (hF:10≤F) (x y:aL):yA F x y=some (gY x y):=by
 simp only [yA,ng,Option.bind_some]
 rw [LU (by simp) (by simp; omega)]
 simp only [Option.bind_some,Jx,gY,dR]
 repeat' split
 all_goals simp_all
theorem wC (x y:aL):yy x y=some (gY x y):=by
 simp only [yy,Io,Option.bind_some,gY,dR,beq_iff_eq]
 repeat' split
 all_goals simp_all
def aL.p9 (x:aL):Bool:=(decide (x.Time ≥ 0)) && ((decide (x.Time≤1000000)) && ((decide (x.Source ≥ 0)) && ((decide (x.Source≤99)) && ((decide (x.Seq ≥ 0)) && (decide (x.Seq≤9999))))))
theorem II (x:aL):Cf x=some x.p9:=rfl
theorem tJ (x:aL):yG x=some x.p9:=rfl
theorem ph {a b : Int} : k9 a b < 0 ↔ a < b := by unfold k9; repeat' split
                                                  all_goals omega
theorem jV {a b : Int} : k9 a b = 0 ↔ a = b := by unfold k9; repeat' split
                                                  all_goals omega
theorem fw {x y:aL}:dR x y<0 ↔ x.Source<y.Source ∨ x.Source=y.Source∧x.Seq<y.Seq:=by
 unfold dR; have:=@jV x.Source y.Source; split
 ·rw [ph]; simp_all
 ·rw [ph]; simp_all
theorem dZ {x y:aL}:dR x y=0 ↔ x.Source=y.Source∧x.Seq=y.Seq:=by
 unfold dR; have:=@jV x.Source y.Source; have:=@jV x.Seq y.Seq; split <;> simp_all
theorem ig {x y:aL}:gY x y<0 ↔ x.Time<y.Time ∨ x.Time=y.Time∧(x.Source<y.Source ∨ x.Source=y.Source∧x.Seq<y.Seq):=by
 unfold gY; have:=@jV x.Time y.Time; split
 ·rw [ph]; simp_all
 ·rw [fw]; simp_all
theorem zW {x y:aL}:gY x y=0 ↔ x=y:=by
 have h1:=@jV x.Time y.Time
 have h2:=@dZ x y
 have h3:x=y ↔ x.Time=y.Time∧x.Source=y.Source∧x.Seq=y.Seq:=by cases x; cases y; simp
 unfold gY; split <;> simp_all
theorem ss {x y:aL}:gY x y > 0 ↔ gY y x<0:=by
 rw [ig]
 unfold gY dR k9
 repeat' split
 all_goals omega
end Go.Sh
namespace Go.Sh
open Go.L
theorem oX {α:Type} {R:α→α→Prop} (hi:∀ a,¬ R a a) (ht:∀ a b c,R a b→R b c→R a c):∀ {xs ys:List α},xs.Pairwise R→ys.Pairwise R→(∀ a,a ∈ xs ↔ a ∈ ys)→xs=ys
 | [],[],_,_,_=>rfl
 | [],y :: ys,_,_,h=>by have:=(h y).2 (by simp); simp at this
 | x :: xs,[],_,_,h=>by have:=(h x).1 (by simp); simp at this
 | x :: xs,y :: ys,hx,hy,h=>by
  rw [List.pairwise_cons] at hx hy
  have lI:x=y:=by
   rcases List.mem_cons.1 ((h x).1 (by simp)) with h1 | h1
   ·exact h1
   ·rcases List.mem_cons.1 ((h y).2 (by simp)) with h2 | h2
    ·exact h2.symm
    ·exact absurd (ht _ _ _ (hx.1 y h2) (hy.1 x h1)) (hi x)
  subst lI
  congr 1
  refine oX hi ht hx.2 hy.2 fun a=>?_
  have:=h a
  simp only [List.mem_cons] at this
  constructor
  ·intro ha
   rcases this.1 (.inr ha) with h1 | h1
   ·subst h1; exact absurd (hx.1 a ha) (hi a)
   ·exact h1
  ·intro ha
   rcases this.2 (.inr ha) with h1 | h1
   ·subst h1; exact absurd (hy.1 a ha) (hi a)
   ·exact h1
def ur {α:Type} (lt:α→α→Bool) (x:α):List α→List α
 | []=>[x]
 | y :: r=>if lt x y then x :: y :: r else y :: ur lt x r
theorem xQ {α:Type} {lt:α→α→Bool} {x a:α}:∀ {l:List α},a ∈ ur lt x l ↔ a=x ∨ a ∈ l
 | []=>by simp [ur]
 | y :: r=>by
  simp only [ur]
  split
  ·simp
  ·simp only [List.mem_cons,xQ (l:=r)]
   constructor
   ·rintro (h | h | h) <;> simp [h]
   ·rintro (h | h | h) <;> simp [h]
theorem u4 {α:Type} {lt:α→α→Bool} {x:α}:∀ {l:List α},(ur lt x l).Perm (x :: l)
 | []=>.refl _
 | y :: r=>by
  simp only [ur]
  split
  ·exact .refl _
  ·exact (u4.cons y).trans (List.Perm.swap x y r)
theorem qT {α:Type} {lt:α→α→Bool} {x:α}:∀ {l:List α},(∀ a ∈ x :: l,∀ b ∈ x :: l,∀ c ∈ x :: l,lt a b=true→lt b c=true→lt a c=true)→(∀ y ∈ l,lt x y=true ∨ lt y x=true)→l.Pairwise (fun a b=>lt a b=true)→(ur lt x l).Pairwise fun a b=>lt a b=true
 | [],_,_,_=>by simp [ur]
 | y :: r,ht,NR,hp=>by
  rw [List.pairwise_cons] at hp
  simp only [ur]
  split
  ·rename_i lI
   rw [List.pairwise_cons]
   refine ⟨fun a ha=>?_,List.pairwise_cons.2 hp⟩
   rcases List.mem_cons.1 ha with rfl | QU
   ·exact lI
   ·exact ht x (by simp) y (by simp) a (by simp [QU]) lI (hp.1 a QU)
  ·rename_i lI
   have Hr:lt y x=true:=(NR y (by simp)).resolve_left lI
   rw [List.pairwise_cons]
   have jj:∀ a,a ∈ x :: r→a ∈ x :: y :: r:=fun a ha=>by rcases List.mem_cons.1 ha with h | h <;> simp [h]
   refine ⟨fun a ha=>?_,qT (fun a ha b hb c hc=>ht a (jj a ha) b (jj b hb) c (jj c hc)) (fun z hz=>NR z (by simp [hz])) hp.2⟩
   rcases xQ.1 ha with rfl | ha
   ·exact Hr
   ·exact hp.1 a ha
def pG {α:Type} (lt:α→α→Bool):List α→List α
 | []=>[]
 | x :: r=>ur lt x (pG lt r)
theorem gT {α:Type} {lt:α→α→Bool}:∀ {l:List α},(pG lt l).Perm l
 | []=>.refl _
 | x :: r=>u4.trans (gT.cons x)
theorem lL {α:Type} {lt:α→α→Bool}:∀ {l:List α},(∀ a ∈ l,∀ b ∈ l,∀ c ∈ l,lt a b=true→lt b c=true→lt a c=true)→l.Pairwise (fun a b=>lt a b=true ∨ lt b a=true)→(pG lt l).Pairwise fun a b=>lt a b=true
 | [],_,_=>by simp [pG]
 | x :: r,ht,hp=>by
  rw [List.pairwise_cons] at hp
  simp only [pG]
  have hm:∀ a,a ∈ x :: pG lt r→a ∈ x :: r:=fun a ha=>by
   rcases List.mem_cons.1 ha with h | h
   ·simp [h]
   ·simp [gT.mem_iff.1 h]
  exact qT (fun a ha b hb c hc=>ht a (hm a ha) b (hm b hb) c (hm c hc)) (fun y hy=>hp.1 y (gT.mem_iff.1 hy)) (lL (fun a ha b hb c hc=>ht a (by simp [ha]) b (by simp [hb]) c (by simp [hc])) hp.2)
theorem y3 {α:Type} {c:α→α→Option Int} {xs:List α} (cf:α→α→Int) (hlen:xs.length<1000000) (hc:∀ x ∈ xs,∀ y ∈ xs,c x y=some (cf x y)) (hi:∀ x ∈ xs,¬ cf x x<0) (ht:∀ x ∈ xs,∀ y ∈ xs,∀ z ∈ xs,cf x y<0→cf y z<0→cf x z<0)
  (hn:∀ x ∈ xs,∀ y ∈ xs,∀ z ∈ xs,¬ cf x y<0→¬ cf y z<0→¬ cf x z<0) (hd:xs.Pairwise fun a b=>cf a b<0 ∨ cf b a<0):∃ ys,pT c xs=some ys∧ys.Perm xs∧ys.Pairwise fun a b=>cf a b<0:=by
 have hs:=lL (lt:=fun a b=>decide (cf a b<0)) (l:=xs) (fun a ha b hb c hc=>by simpa using ht a ha b hb c hc) (by simpa using hd)
 have Fk:(pG (fun a b=>decide (cf a b<0)) xs).Pairwise fun a b=>cf a b<0:=by simpa using hs
 exact ⟨_,GZ ⟨gT,hlen,cf,hc,hi,ht,hn,Fk⟩,gT,Fk⟩
def Hu (x y:aL):Prop:=x.Source=y.Source∧x.Seq=y.Seq
instance (x y:aL):Decidable (Hu x y):=by unfold Hu; infer_instance
def th (l:List aL) (i:Nat):Prop:=∃ x,l[i]?=some x∧x.p9=true
def um (l:List aL) (cl:List Int) (i k:Nat):Prop:=∃ x y c d,l[i]?=some x∧l[k]?=some y∧cl[i]?=some c∧cl[k]?=some d∧Hu x y∧(x.Time ≠ y.Time ∨ c ≠ d)
def counts (l:List aL) (cl:List Int) (i:Nat):Prop:=th l i∧∀ k,th l k→¬ um l cl i k∧(k<i→l[k]? ≠ l[i]?)
def kT (l:List aL) (a b:Int):Prop:=∃ x y,l[a.toNat]?=some x∧l[b.toNat]?=some y∧gY x y<0
structure kD (l:List aL) (cl:List Int) (a:List Int):Prop where
 sorted:a.Pairwise (kT l)
 mem:∀ i,i ∈ a ↔ 0≤i∧counts l cl i.toNat
theorem FL (l:List aL) (a:Int):¬ kT l a a:=by
 rintro ⟨x,y,h1,h2,h3⟩
 rw [h1] at h2; cases h2
 rw [ig] at h3; omega
theorem oJ (l:List aL) (a b c:Int) (h:kT l a b) (h':kT l b c):kT l a c:=by
 obtain ⟨x,y,h1,h2,h3⟩:=h
 obtain ⟨y',z,h4,h5,h6⟩:=h'
 rw [h2] at h4; cases h4
 refine ⟨x,z,h1,h5,?_⟩
 rw [ig] at *; omega
theorem kD.unique {l:List aL} {cl:List Int} {a b:List Int} (h:kD l cl a) (h':kD l cl b):a=b :=
 oX (FL l) (oJ l) h.sorted h'.sorted fun i=>by rw [h.mem,h'.mem]
def Canon (l:List aL) (cl:List Int) (r:List Int × Int):Prop :=
 if l.length ≠ cl.length then r=([],1) else ∃ a,kD l cl a∧r=if 300<a.length then ([],3) else (a,0)
theorem Canon.unique {l:List aL} {cl:List Int} {r s:List Int × Int} (h:Canon l cl r) (h':Canon l cl s):r=s:=by
 unfold Canon at *
 split at h
 ·rename_i hl; rw [if_pos hl] at h'; rw [h,h']
 ·rename_i hl; rw [if_neg hl] at h'
  obtain ⟨a,h1,rfl⟩:=h
  obtain ⟨b,h2,rfl⟩:=h'
  rw [h1.unique h2]
end Go.Sh
namespace Go.Sh
open Go.L
theorem ny {l:List aL} {i:Nat} (h:i<l.length):th l i ↔ l[i].p9=true:=by
 unfold th; simp [h]
theorem BB {l:List aL} {cl:List Int} {i k:Nat} (h:i<l.length) (hk:k<l.length) (hl:l.length=cl.length):um l cl i k ↔ Hu l[i] l[k]∧(l[i].Time ≠ l[k].Time ∨ cl[i] ≠ cl[k]):=by
 unfold um
 have h':i<cl.length:=by omega
 have D1:k<cl.length:=by omega
 simp only [List.getElem?_eq_getElem,h,hk,h',D1,Option.some.injEq]
 constructor
 ·rintro ⟨x,y,c,d,rfl,rfl,rfl,rfl,h1,h2⟩; exact ⟨h1,h2⟩
 ·rintro ⟨h1,h2⟩; exact ⟨_,_,_,_,rfl,rfl,rfl,rfl,h1,h2⟩
theorem B0 {l:List aL} {i:Nat} (h:l.length≤i):¬ th l i:=by
 rintro ⟨x,h1,_⟩; rw [List.getElem?_eq_none h] at h1; cases h1
theorem xk {l:List aL} {cl:List Int} {i:Nat} (hi:i<l.length) (hl:l.length=cl.length) (hb:l.length<1000000) (QZ:l[i].p9=true) :
  ∀ n (k:Int),(∃ j:Nat,k=j∧j≤l.length∧∀ q,q<j→th l q→¬ um l cl i q∧(q<i→l[q]? ≠ l[i]?))→(l.length - k.toNat)<n→∃ r,Dx l cl i n k=some r∧(r=true ↔ counts l cl i):=by
 refine Ju (L:=Dx l cl i) (B:=Ds l cl i) (fun _=>rfl) _ (fun k:Int=>l.length - k.toNat) _ ?_
 rintro rec k ⟨j,rfl,hj,hI⟩ pB
 have gn:i<cl.length:=by omega
 by_cases dY:j<l.length
 ·have EY:j<cl.length:=by omega
  have d1:decide ((j:Int)<(l.length:Int))=true:=by simp; exact dY
  have nV:i64 ((j:Int)+1)=((j+1:Nat):Int):=by rw [cO (by omega) (by omega)]; rfl
  have RJ:(th l j→¬ um l cl i j∧(j<i→l[j]? ≠ l[i]?))→∃ r,rec (i64 ((j:Int)+1))=some r∧(r=true ↔ counts l cl i):=fun h=>by
   rw [nV]
   refine pB _ ⟨j+1,rfl,by omega,fun q hq=>?_⟩ (by simp; omega)
   rcases Nat.lt_succ_iff_lt_or_eq.1 hq with h1 | rfl
   ·exact hI q h1
   ·exact h
  unfold Ds
  simp only [d1,if_true,dj dY,dj hi,dj EY,dj gn,tJ,Option.bind_some,Ca]
  by_cases hg:l[j].p9=true
  ·have gM:th l j:=(ny dY).2 hg
   simp only [hg,if_true]
   by_cases hd:((l[i].Source == l[j].Source) && ((l[i].Seq == l[j].Seq) && ((l[i].Time != l[j].Time) || (cl[i] != cl[j]))))=true
   ·simp only [hd,if_true,Option.bind_some]
    refine ⟨false,rfl,?_⟩
    simp only [Bool.false_eq_true,false_iff]
    intro hc
    refine (hc.2 j gM).1 ((BB hi dY hl).2 ?_)
    simp at hd; unfold Hu; exact ⟨⟨hd.1,hd.2.1⟩,hd.2.2⟩
   ·have QW:¬ um l cl i j:=fun h=>hd (by
     have:=(BB hi dY hl).1 h; unfold Hu at this; simp [this])
    simp only [bF hd,Bool.false_eq_true,if_false]
    by_cases HQ:j<i
    ·have:decide ((j:Int)<(i:Int))=true:=by simp; exact HQ
     simp only [this,if_true,Option.bind_some]
     by_cases he:l[j]=l[i]
     ·simp only [he,decide_true,if_true]
      refine ⟨false,rfl,?_⟩
      simp only [Bool.false_eq_true,false_iff]
      intro hc
      exact (hc.2 j gM).2 HQ (by simp [dY,hi,he])
     ·simp only [he,decide_false,Bool.false_eq_true,if_false]
      exact RJ fun _=>⟨QW,fun _ h=>he (by simpa [dY,hi] using h)⟩
    ·have:decide ((j:Int)<(i:Int))=false:=by simp; omega
     simp only [this,Bool.false_eq_true,if_false,Option.bind_some]
     exact RJ fun _=>⟨QW,fun h=>absurd h HQ⟩
  ·simp only [bF hg,Bool.false_eq_true,if_false,Option.bind_some]
   exact RJ fun h=>absurd ((ny dY).1 h) hg
 ·have d1:decide ((j:Int)<(l.length:Int))=false:=by simp; omega
  unfold Ds
  simp only [d1,Bool.false_eq_true,if_false]
  refine ⟨true,rfl,?_⟩
  simp only [true_iff]
  refine ⟨(ny hi).2 QZ,fun k hk=>hI k ?_ hk⟩
  by_cases Ho:k<l.length
  ·omega
  ·exact absurd hk (B0 (by omega))
theorem yW {F:Nat} {l:List aL} {cl:List Int} {i:Nat} (hi:i<l.length) (hl:l.length=cl.length) (hb:l.length<1000000) (hF:l.length<F):∃ b,yC F l cl i=some b∧(b=true ↔ counts l cl i):=by
 unfold yC
 simp only [dj hi,tJ,Option.bind_some]
 by_cases hg:l[i].p9=true
 ·simp only [hg,Bool.not_true,Bool.false_eq_true,if_false]
  exact xk hi hl hb hg F _ ⟨0,rfl,by omega,fun q hq=>by omega⟩ (by simpa using hF)
 ·simp only [bF hg,Bool.not_false,if_true]
  refine ⟨false,rfl,?_⟩
  simp only [Bool.false_eq_true,false_iff]
  exact fun h=>hg ((ny hi).1 h.1)
theorem zY {l:List aL} {cl:List Int} {i k:Nat} (hi:counts l cl i) (hk:counts l cl k) (h:l[i]?=l[k]?):i=k:=by
 rcases Nat.lt_trichotomy i k with h1 | h1 | h1
 ·exact absurd h ((hk.2 i hi.1).2 h1)
 ·exact h1
 ·exact absurd h.symm ((hi.2 k hk.1).2 h1)
theorem jW {l:List aL} {cl:List Int} {i:Nat} (h:counts l cl i):i<l.length:=by
 obtain ⟨⟨x,h1,_⟩,_⟩:=h
 exact (List.getElem?_eq_some_iff.1 h1).1
theorem oj {l:List aL} {cl:List Int} {i k:Nat} (hi:counts l cl i) (hk:counts l cl k) (h:i ≠ k):kT l i k ∨ kT l k i:=by
 have h1:=jW hi
 have h2:=jW hk
 have h3:l[i] ≠ l[k]:=fun he=>h (zY hi hk (by simp [h1,h2,he]))
 have h4:¬ gY l[i] l[k]=0:=fun he=>h3 (zW.1 he)
 rcases Int.lt_or_gt_of_ne h4 with h5 | h5
 ·exact .inl ⟨l[i],l[k],by simp [h1],by simp [h2],h5⟩
 ·exact .inr ⟨l[k],l[i],by simp [h2],by simp [h1],ss.1 h5⟩
theorem GP {l:List aL} {cl:List Int} {out:List Int} {i:Nat} (hi:i<l.length) (hlen:out.length<1000000) (oC:∀ a ∈ out,0≤a∧a.toNat<l.length) (hs:out.Pairwise (kT l)) {aJ:List Int→Int→Option (List Int × Int)} {jb:List Int × Int→Prop}
  (h:∀ p s,out=p++s→(∀ a ∈ s,kT l i a)→(∀ a,p.getLast?=some a→¬ kT l i a)→∃ r,aJ (p++(i:Int) :: s) (i64 ((i:Int)+1))=some r∧jb r) :
  ∀ n (k:Int),(∃ p s,out=p++s∧k=(p.length:Int)∧∀ a ∈ s,kT l i a)→k.toNat<n→∃ r,Dq aJ l out i n k=some r∧jb r:=by
 refine Ju (L:=Dq aJ l out i) (B:=Gv aJ l out i) (fun _=>rfl) _ (fun k:Int=>k.toNat) _ ?_
 rintro rec k ⟨p,s,rfl,rfl,Q0⟩ pB
 unfold Gv
 have fin:(∀ a,p.getLast?=some a→¬ kT l i a)→∃ r,((Eb (p++s) 0 (p.length:Int)).bind fun Ec=>(app [] Ec).bind fun v17=>(app v17 [(i:Int)]).bind fun pV=>(Eb (p++s) (p.length:Int) ((p++s).length:Int)).bind fun qY=>(app pV qY).bind fun v20=>aJ v20 (i64 ((i:Int)+1)))=some r∧jb r:=fun E1=>by
  simp only [List.length_append] at hlen
  rw [y2 (by simp),GX (by simp)]
  simp only [Option.bind_some,List.take_left,List.drop_left]
  rw [c6 (by simp; omega)]
  simp only [Option.bind_some,List.nil_append]
  rw [c6 (by simp; omega)]
  simp only [Option.bind_some]
  rw [c6 (by simp; omega)]
  simp only [Option.bind_some,List.append_assoc,List.singleton_append]
  exact h p s rfl Q0 E1
 rcases List.eq_nil_or_concat p with rfl | ⟨q,a,rfl⟩
 ·simp only [List.length_nil,Int.ofNat_zero,gt_iff_lt,Int.lt_irrefl,decide_false,Bool.false_eq_true,if_false,Option.bind_some]
  exact fin (by simp)
 ·rw [List.concat_eq_append] at *
  have ha:=oC a (by simp)
  have d1:decide (((q++[a]).length:Int) > 0)=true:=by simp only [List.length_append,List.length_singleton,decide_eq_true_eq]; omega
  have hw:i64 (((q++[a]).length:Int) - 1)=(q.length:Int):=by
   simp only [List.length_append,List.length_singleton] at hlen ⊢
   rw [cO (by omega) (by omega)]; omega
  have hq:idx (q++[a]++s) (q.length:Int)=some a:=by rw [List.append_assoc]; exact jz q a s
  have hx:idx l a=some l[a.toNat]:=by rw [gF]; exact ⟨ha.1,by simp [ha.2]⟩
  simp only [d1,if_true,hw,hq,hx,dj hi,wC,Option.bind_some]
  by_cases hc:gY l[a.toNat] l[i] > 0
  ·simp only [hc,decide_true,if_true]
   have VG:kT l i a:=⟨l[i],l[a.toNat],by simp [hi],by simp [ha.2],ss.1 hc⟩
   refine pB _ ⟨q,a :: s,by simp,rfl,fun b hb=>?_⟩ (by simp)
   rcases List.mem_cons.1 hb with rfl | hb
   ·exact VG
   ·exact Q0 b hb
  ·simp only [hc,decide_false,Bool.false_eq_true,if_false]
   refine fin fun b hb=>?_
   simp at hb; subst hb
   rintro ⟨x,y,h1,h2,h3⟩
   simp [hi] at h1
   simp [ha.2] at h2
   subst h1; subst h2
   exact hc (ss.2 h3)
theorem uz {F:Nat} {l:List aL} {cl:List Int} (hl:l.length=cl.length) (hb:l.length<1000000) (hF:l.length<F) :
  ∀ n (out:List Int) (k:Int),(∃ j:Nat,k=j∧j≤l.length∧out.length≤j∧out.Pairwise (kT l)∧∀ i,i ∈ out ↔ 0≤i∧i.toNat<j∧counts l cl i.toNat)→(l.length - k.toNat)<n→∃ r,Dp F l cl n out k=some r∧Canon l cl r:=by
 refine BW (L:=Dp F l cl) (B:=Gu F l cl) (fun _=>rfl) _ (fun (_:List Int) (k:Int)=>l.length - k.toNat) _ ?_
 rintro rec out k ⟨j,rfl,hj,hlen,hs,hm⟩ pB
 unfold Gu
 by_cases dY:j<l.length
 ·have d1 : decide ((j : Int) < (l.length : Int)) = true := by simp; exact dY
  have nV:i64 ((j:Int)+1)=((j+1:Nat):Int):=by rw [cO (by omega) (by omega)]; rfl
  obtain ⟨b,h1,h2⟩:=yW (F:=F) dY hl hb hF
  simp only [d1,if_true,h1,Option.bind_some]
  cases b with
  | false =>
   simp only [Bool.not_false,if_true]
   have kq:¬ counts l cl j:=fun h=>by simpa using h2.2 h
   rw [nV]
   refine pB _ _ ⟨j+1,rfl,by omega,by omega,hs,fun i=>?_⟩ (by simp; omega)
   rw [hm]
   constructor
   ·rintro ⟨a1,a2,a3⟩; exact ⟨a1,by omega,a3⟩
   ·rintro ⟨a1,a2,a3⟩
    refine ⟨a1,?_,a3⟩
    rcases Nat.lt_succ_iff_lt_or_eq.1 a2 with h | h
    ·exact h
    ·rw [h] at a3; exact absurd a3 kq
  | true =>
   simp only [Bool.not_true,Bool.false_eq_true,if_false]
   have hc:counts l cl j:=h2.1 rfl
   refine GP (cl:=cl) dY (by omega) (fun a ha=>?_) hs ?_ F _ ⟨out,[],by simp,rfl,by simp⟩ (by simp; omega)
   ·have:=(hm a).1 ha; exact ⟨this.1,by omega⟩
   ·rintro p s rfl Q0 E1
    rw [nV]
    have ew:∀ a ∈ p++s,a ≠ (j:Int):=fun a ha h=>by have:=(hm a).1 ha; omega
    have wV:∀ a ∈ p,kT l a j:=by
     intro a ha
     have Sb:∀ b,p.getLast?=some b→kT l b j:=fun b hb=>by
      have QV:b ∈ p++s:=by simp [List.mem_of_getLast? hb]
      have RT:=(hm b).1 QV
      have:=oj RT.2.2 hc (fun h=>by have:=RT.2.1; omega)
      rw [Int.toNat_of_nonneg RT.1] at this
      exact this.resolve_right (E1 b hb)
     rcases List.eq_nil_or_concat p with rfl | ⟨q,b,rfl⟩
     ·simp at ha
     ·rw [List.concat_eq_append] at *
      have hb:=Sb b (by simp)
      rcases List.mem_append.1 ha with ha | ha
      ·have:kT l a b:=by
        rw [List.append_assoc,List.pairwise_append] at hs
        exact hs.2.2 a ha b (by simp)
       exact oJ l a b j this hb
      ·simp at ha; subst ha; exact hb
    refine pB _ _ ⟨j+1,rfl,by omega,by simp at hlen ⊢; omega,?_,fun i=>?_⟩ (by simp; omega)
    ·rw [List.pairwise_append] at hs ⊢
     refine ⟨hs.1,?_,fun a ha b hb=>?_⟩
     ·rw [List.pairwise_cons]; exact ⟨Q0,hs.2.1⟩
     ·rcases List.mem_cons.1 hb with rfl | hb
      ·exact wV a ha
      ·exact hs.2.2 a ha b hb
    ·have:=hm i
     simp only [List.mem_append,List.mem_cons] at this ⊢
     constructor
     ·rintro (h | h | h)
      ·have:=this.1 (.inl h); exact ⟨this.1,by omega,this.2.2⟩
      ·subst h; exact ⟨by omega,by simp,by simpa using hc⟩
      ·have:=this.1 (.inr h); exact ⟨this.1,by omega,this.2.2⟩
     ·rintro ⟨a1,a2,a3⟩
      by_cases rI:i=(j:Int)
      ·exact .inr (.inl rI)
      ·rcases this.2 ⟨a1,by omega,a3⟩ with h | h
       ·exact .inl h
       ·exact .inr (.inr h)
 ·have d1:decide ((j:Int)<(l.length:Int))=false:=by simp; omega
  simp only [d1,Bool.false_eq_true,if_false]
  have EO:kD l cl out:=⟨hs,fun i=>by
   rw [hm]
   constructor
   ·rintro ⟨a1,_,a3⟩; exact ⟨a1,a3⟩
   ·rintro ⟨a1,a3⟩; exact ⟨a1,by have:=jW a3; omega,a3⟩⟩
  by_cases h3:300<out.length
  ·have:decide ((out.length:Int) > 300)=true:=by simp; omega
   simp only [this,if_true]
   refine ⟨_,rfl,?_⟩
   unfold Canon; rw [if_neg (by omega)]
   exact ⟨out,EO,by rw [if_pos h3]⟩
  ·have:decide ((out.length:Int) > 300)=false:=by simp; omega
   simp only [this,Bool.false_eq_true,if_false]
   refine ⟨_,rfl,?_⟩
   unfold Canon; rw [if_neg (by omega)]
   exact ⟨out,EO,by rw [if_neg h3]⟩
theorem tI {F:Nat} {l:List aL} {cl:List Int} (hb:l.length<1000000) (hF:l.length<F):∃ r,Dw F l cl=some r∧Canon l cl r:=by
 unfold Dw
 by_cases hl:l.length=cl.length
 ·have:((cl.length:Int) != (l.length:Int))=false:=by simp; omega
  simp only [this,Bool.false_eq_true,if_false]
  exact uz hl hb hF F _ _ ⟨0,rfl,by omega,by simp,by simp,fun i=>by simp⟩ (by simpa using hF)
 ·have:((cl.length:Int) != (l.length:Int))=true:=by simp; omega
  simp only [this,if_true]
  exact ⟨_,rfl,by unfold Canon; rw [if_pos hl]⟩
end Go.Sh
namespace Go.Sh
open Go.L
def sat (l:List aL) (i:Int):aL:=l.getD i.toNat default
def cat (cl:List Int) (i:Int):Int:=cl.getD i.toNat 0
def pW (l:List aL) (i:Int):Prop:=0≤i∧th l i.toNat
theorem tX {l:List aL} {i:Int} (h:pW l i):i.toNat<l.length:=by
 obtain ⟨_,x,h1,_⟩:=h; exact (List.getElem?_eq_some_iff.1 h1).1
theorem nC {l:List aL} {i:Int} (h:pW l i):idx l i=some (sat l i):=by
 have:=tX h
 rw [gF]; exact ⟨h.1,by simp [sat,this]⟩
theorem zt {l:List aL} {cl:List Int} {i:Int} (h:pW l i) (hl:l.length=cl.length):idx cl i=some (cat cl i):=by
 have:=tX h
 have:i.toNat<cl.length:=by omega
 rw [gF]; exact ⟨h.1,by simp [cat,this]⟩
theorem kM {l:List aL} {i:Int} (h:pW l i):l[i.toNat]?=some (sat l i):=by
 have:=tX h; simp [sat,this]
theorem zr {l:List aL} {cl:List Int} {i:Int} (h:pW l i) (hl:l.length=cl.length):cl[i.toNat]?=some (cat cl i):=by
 have:=tX h
 have:i.toNat<cl.length:=by omega
 simp [cat,this]
def diff (l:List aL) (cl:List Int) (i k:Int):Prop:=sat l i ≠ sat l k ∨ cat cl i ≠ cat cl k
def pg (l:List aL) (i j:Int):Int:=if dR (sat l i) (sat l j) ≠ 0 then dR (sat l i) (sat l j) else k9 i j
theorem k8 {l:List aL} {i j:Int}:pg l i j<0 ↔ ((sat l i).Source<(sat l j).Source ∨ (sat l i).Source=(sat l j).Source∧((sat l i).Seq<(sat l j).Seq ∨ (sat l i).Seq=(sat l j).Seq∧i<j)):=by
 have h1:=@fw (sat l i) (sat l j)
 have h2:=@dZ (sat l i) (sat l j)
 have h3:=@ph i j
 unfold pg; split <;> omega
theorem CJ {F:Nat} (hF:10≤F) {l:List aL} {i j:Int} (hi:pW l i) (hj:pW l j):DE F i j l=some (pg l i j):=by
 simp only [DE,nC hi,nC hj,qz hF,ng,Option.bind_some]
 rw [LU (by simp) (by simp; omega)]
 simp only [Option.bind_some,Jx,pg]
 repeat' split
 all_goals simp_all
structure j6 (l:List aL) (cl:List Int) (T:List Int) (gs:List ej):Prop where
 first:∀ g ∈ gs,g.first ∈ T
 each:∀ t ∈ T,∃ g ∈ gs,dR (sat l g.first) (sat l t)=0∧g.first≤t
 J8:∀ g ∈ gs,(g.dS=true ↔ ∃ t ∈ T,dR (sat l g.first) (sat l t)=0∧diff l cl g.first t)
 IQ:gs.Pairwise fun g h=>dR (sat l g.first) (sat l h.first)<0
 len:gs.length≤T.length
 last:∀ g,gs.getLast?=some g→∀ t ∈ T,¬ dR (sat l g.first) (sat l t)<0
theorem j6.new {l:List aL} {cl:List Int} {T:List Int} {gs:List ej} {x:Int} (h:j6 l cl T gs) (hx:∀ t ∈ T,pg l t x<0) (hn:∀ g,gs.getLast?=some g→dR (sat l g.first) (sat l x) ≠ 0):j6 l cl (T++[x]) (gs++[⟨x,false⟩]):=by
 have dY:∀ g ∈ gs,dR (sat l g.first) (sat l x)<0:=by
  intro g hg
  rcases List.eq_nil_or_concat gs with rfl | ⟨zu,g',rfl⟩
  ·simp at hg
  ·rw [List.concat_eq_append] at *
   have h1:dR (sat l g'.first) (sat l x)<0:=by
    have a1:=hn g' (by simp)
    have a2:=hx g'.first (h.first g' (by simp))
    rw [k8] at a2; rw [fw]; have:=mt (@dZ (sat l g'.first) (sat l x)).2 a1; omega
   rcases List.mem_append.1 hg with hg | hg
   ·have:=(List.pairwise_append.1 h.IQ).2.2 g hg g' (by simp)
    rw [fw] at *; omega
   ·simp at hg; subst hg; exact h1
 have NP:∀ t ∈ T,dR (sat l t) (sat l x)<0:=by
  intro t ht
  obtain ⟨g,hg,h1,_⟩:=h.each t ht
  have h2:=dY g hg
  rw [dZ] at h1; rw [fw] at *; omega
 constructor
 ·intro g hg
  rcases List.mem_append.1 hg with hg | hg
  ·simp [h.first g hg]
  ·simp at hg; subst hg; simp
 ·intro t ht
  rcases List.mem_append.1 ht with ht | ht
  ·obtain ⟨g,hg,h1⟩:=h.each t ht; exact ⟨g,by simp [hg],h1⟩
  ·simp at ht; subst ht; exact ⟨⟨t,false⟩,by simp,by simp [dZ],Int.le_refl _⟩
 ·intro g vU
  rcases List.mem_append.1 vU with hg | hg
  ·rw [h.J8 g hg]
   constructor
   ·rintro ⟨t,ht,h1⟩; exact ⟨t,by simp [ht],h1⟩
   ·rintro ⟨t,ht,h1⟩
    have:=dY g hg
    rcases List.mem_append.1 ht with ht | ht
    ·exact ⟨t,ht,h1⟩
    ·simp at ht; rw [ht] at h1; omega
  ·simp at hg; subst hg
   simp only [Bool.false_eq_true,false_iff]
   rintro ⟨t,ht,h1,h2⟩
   rcases List.mem_append.1 ht with ht | ht
   ·have:=NP t ht; rw [dZ] at h1; rw [fw] at this; omega
   ·simp at ht; subst ht; rcases h2 with h2 | h2 <;> exact h2 rfl
 ·rw [List.pairwise_append]; exact ⟨h.IQ,by simp,fun g hg g' sM=>by simp at sM; subst sM; exact dY g hg⟩
 ·simp; exact h.len
 ·intro g hg t ht
  simp at hg; subst hg
  show ¬ dR (sat l x) (sat l t)<0
  rcases List.mem_append.1 ht with ht | ht
  ·have:=NP t ht; rw [fw] at *; omega
  ·simp at ht; subst ht; rw [fw]; omega
theorem j6.TG {l:List aL} {cl:List Int} {T:List Int} {gs:List ej} {g:ej} {x:Int} {b:Bool} (h:j6 l cl T (gs++[g])) (hx:∀ t ∈ T,pg l t x<0) (he:dR (sat l g.first) (sat l x)=0) (hb:b=true ↔ g.dS=true ∨ diff l cl g.first x):j6 l cl (T++[x]) (gs++[⟨g.first,b⟩]):=by
 have R6:g.first≤x:=by
  have:=hx g.first (h.first g (by simp))
  rw [k8] at this; rw [dZ] at he; omega
 have dY:∀ k ∈ gs,dR (sat l k.first) (sat l x)<0:=fun k hk=>by
  have:=(List.pairwise_append.1 h.IQ).2.2 k hk g (by simp)
  rw [dZ] at he; rw [fw] at *; omega
 constructor
 ·intro k hk
  rcases List.mem_append.1 hk with hk | hk
  ·simp [h.first k (by simp [hk])]
  ·simp at hk; subst hk; simp [h.first g (by simp)]
 ·intro t ht
  rcases List.mem_append.1 ht with ht | ht
  ·obtain ⟨k,hk,h1⟩:=h.each t ht
   rcases List.mem_append.1 hk with hk | hk
   ·exact ⟨k,by simp [hk],h1⟩
   ·simp at hk; subst hk; exact ⟨⟨k.first,b⟩,by simp,h1⟩
  ·simp at ht; subst ht; exact ⟨⟨g.first,b⟩,by simp,he,R6⟩
 ·intro k hk
  rcases List.mem_append.1 hk with hk | hk
  ·rw [h.J8 k (by simp [hk])]
   constructor
   ·rintro ⟨t,ht,h1⟩; exact ⟨t,by simp [ht],h1⟩
   ·rintro ⟨t,ht,h1⟩
    rcases List.mem_append.1 ht with ht | ht
    ·exact ⟨t,ht,h1⟩
    ·simp at ht; subst ht; have:=dY k hk; omega
  ·simp at hk; subst hk
   show b=true ↔ _
   rw [hb,h.J8 g (by simp)]
   constructor
   ·rintro (⟨t,ht,h1⟩ | h1)
    ·exact ⟨t,by simp [ht],h1⟩
    ·exact ⟨x,by simp,he,h1⟩
   ·rintro ⟨t,ht,h1,h2⟩
    rcases List.mem_append.1 ht with ht | ht
    ·exact .inl ⟨t,ht,h1,h2⟩
    ·simp at ht; subst ht; exact .inr h2
 ·have:=h.IQ
  rw [List.pairwise_append] at this ⊢
  exact ⟨this.1,by simp,fun k hk g' sM=>by simp at sM; subst sM; exact this.2.2 k hk g (by simp)⟩
 ·have:=h.len; simp at this ⊢; omega
 ·intro k hk t ht
  simp at hk; subst hk
  rcases List.mem_append.1 ht with ht | ht
  ·exact h.last g (by simp) t ht
  ·simp at ht; subst ht; show ¬ dR (sat l g.first) _<0; omega
theorem xq {F:Nat} (hF:10≤F) {l:List aL} {cl:List Int} (hl:l.length=cl.length) (hb:l.length<1000000) {S:List Int} (hS:S.Pairwise fun a b=>pg l a b<0) (hv:∀ i ∈ S,pW l i) (RM:S.length≤l.length) :
  ∀ n (k:Int) (gs:List ej),(∃ T U,S=T++U∧k=(T.length:Int)∧j6 l cl T gs)→(S.length - k.toNat)<n→∃ r,DA F l cl S n k gs=some r∧j6 l cl S r:=by
 refine BW (L:=DA F l cl S) (B:=GK F l cl S) (fun _=>rfl) _ (fun (k:Int) (_:List ej)=>S.length - k.toNat) _ ?_
 rintro rec k gs ⟨T,U,Hm,rfl,hG⟩ pB
 unfold GK
 cases U with
 | nil =>
  have d1:decide ((T.length:Int)<(S.length:Int))=false:=by subst Hm; simp
  simp only [d1,Bool.false_eq_true,if_false]
  refine ⟨gs,rfl,?_⟩
  subst Hm; simpa using hG
 | cons x U =>
  have d1:decide ((T.length:Int)<(S.length:Int))=true:=by subst Hm; exact HC T x U
  have BO:idx S (T.length:Int)=some x:=by subst Hm; exact jz T x U
  have WL:T.length<1000000:=by have:=congrArg List.length Hm; simp at this; omega
  have hx:∀ t ∈ T,pg l t x<0:=fun t ht=>by
   rw [Hm] at hS; exact (List.pairwise_append.1 hS).2.2 t ht x (by simp)
  have vx:pW l x:=hv x (by rw [Hm]; simp)
  have I0:∀ zu,j6 l cl (T++[x]) zu→∃ r,rec (i64 ((T.length:Int)+1)) zu=some r∧j6 l cl S r:=fun zu sM=>by
   rw [LF T x (by omega)]
   refine pB _ _ ⟨T++[x],U,by simp [Hm],rfl,sM⟩ ?_
   have:=congrArg List.length Hm
   simp at this ⊢; omega
  simp only [d1,if_true,BO,Option.bind_some]
  have Ng:gs.length≤T.length:=hG.len
  rcases List.eq_nil_or_concat gs with rfl | ⟨zu,g,rfl⟩
  ·have:decide (i64 ((([]:List ej).length:Int) - 1)<0)=true:=by rw [cO (by simp) (by simp)]; simp
   simp only [this,if_true,Option.bind_some]
   rw [c6 (by simp)]
   exact I0 _ (hG.new hx (by simp))
  ·rw [List.concat_eq_append] at *
   simp only [List.length_append,List.length_singleton] at Ng
   have hw:i64 (((zu++[g]).length:Int) - 1)=(zu.length:Int):=by
    simp only [List.length_append,List.length_singleton]
    rw [cO (by omega) (by omega)]; omega
   have R6:idx (zu++[g]) (zu.length:Int)=some g:=jz zu g []
   have KP:decide ((zu.length:Int)<0)=false:=by simp
   have vg:pW l g.first:=hv _ (by rw [Hm]; simp [hG.first g (by simp)])
   have Kg:app (zu++[g]) [ej.mk x false]=some (zu++[g]++[ej.mk x false]):=c6 (by simp; omega)
   simp only [hw,KP,R6,nC vg,nC vx,zt vg hl,zt vx hl,qz hF,Bool.false_eq_true,if_false,Option.bind_some,bne_iff_ne,ne_eq,Kg]
   by_cases he:dR (sat l g.first) (sat l x)=0
   ·simp only [he,not_true_eq_false,if_false,Bool.not_eq_eq_eq_not,Bool.not_true,decide_eq_false_iff_not]
    have iN:(zu++[g]).set ((zu.length:Int)).toNat (ej.mk g.first true)=zu++[ej.mk g.first true]:=by simp
    by_cases hd:sat l g.first=sat l x
    ·simp only [hd,not_true_eq_false,if_false,Option.bind_some,bne_iff_ne,ne_eq]
     by_cases hc:cat cl g.first=cat cl x
     ·simp only [hc,not_true_eq_false,if_false]
      have:=hG.TG (b:=g.dS) hx he ⟨.inl,fun h=>h.elim id fun h=>(h.elim (fun h=>absurd hd h) fun h=>absurd hc h)⟩
      exact I0 _ this
     ·simp only [hc,not_false_eq_true,if_true,iN]
      exact I0 _ (hG.TG (b:=true) hx he ⟨fun _=>.inr (.inr hc),fun _=>rfl⟩)
    ·simp only [hd,not_false_eq_true,if_true,Option.bind_some,iN]
     exact I0 _ (hG.TG (b:=true) hx he ⟨fun _=>.inr (.inl hd),fun _=>rfl⟩)
   ·simp only [he,not_false_eq_true,if_true]
    exact I0 _ (hG.new hx (by simpa using he))
theorem vO {F:Nat} (hF:10≤F) {l:List aL} {cl:List Int} (hl:l.length=cl.length) (hb:l.length<1000000) (Hl:l.length<F) :
  ∀ n (k:Int) (acc:List Int),(∃ j:Nat,k=j∧j≤l.length∧acc.length≤j∧acc.Pairwise (·<·)∧∀ i,i ∈ acc ↔ pW l i∧i<j)→(l.length - k.toNat)<n →
   ∃ r,Dz F l cl n k acc=some r∧∃ S,(∀ i,i ∈ S ↔ pW l i)∧S.length≤l.length∧j6 l cl S r:=by
 refine BW (L:=Dz F l cl) (B:=GJ F l cl) (fun _=>rfl) _ (fun (k:Int) (_:List Int)=>l.length - k.toNat) _ ?_
 rintro rec k acc ⟨j,rfl,hj,hlen,hs,hm⟩ pB
 unfold GJ
 by_cases dY:j<l.length
 ·have d1:decide ((j:Int)<(l.length:Int))=true:=by simp; exact dY
  have nV:i64 ((j:Int)+1)=((j+1:Nat):Int):=by rw [cO (by omega) (by omega)]; rfl
  simp only [d1,if_true,dj dY,II,Option.bind_some]
  by_cases hg:l[j].p9=true
  ·simp only [hg,if_true]
   rw [c6 (by simp; omega)]
   simp only [Option.bind_some,nV]
   refine pB _ _ ⟨j+1,rfl,by omega,by simp; omega,?_,fun i=>?_⟩ (by simp; omega)
   ·rw [List.pairwise_append]; exact ⟨hs,by simp,fun a ha b hb=>by simp at hb; subst hb; exact ((hm a).1 ha).2⟩
   ·simp only [List.mem_append,List.mem_singleton,hm]
    constructor
    ·rintro (⟨h1,h2⟩ | rfl)
     ·exact ⟨h1,by omega⟩
     ·exact ⟨⟨by omega,by simpa using (ny dY).2 hg⟩,by omega⟩
    ·rintro ⟨h1,h2⟩
     by_cases h:i=(j:Int)
     ·exact .inr h
     ·exact .inl ⟨h1,by omega⟩
  ·simp only [bF hg,Bool.false_eq_true,if_false,nV]
   refine pB _ _ ⟨j+1,rfl,by omega,by omega,hs,fun i=>?_⟩ (by simp; omega)
   rw [hm]
   constructor
   ·rintro ⟨h1,h2⟩; exact ⟨h1,by omega⟩
   ·rintro ⟨h1,h2⟩
    refine ⟨h1,?_⟩
    by_cases h:i=(j:Int)
    ·subst h; exact absurd ((ny dY).1 (by simpa using h1.2)) hg
    ·omega
 ·have d1:decide ((j:Int)<(l.length:Int))=false:=by simp; omega
  simp only [d1,Bool.false_eq_true,if_false]
  have hv:∀ i,i ∈ acc ↔ pW l i:=fun i=>by
   rw [hm]
   constructor
   ·exact fun h=>h.1
   ·intro h; refine ⟨h,?_⟩; have:=tX h; have:=h.1; omega
  obtain ⟨S,h1,h2,h3⟩:=y3 (c:=fun a0 a1=>DE F a0 a1 l) (xs:=acc) (pg l) (by omega) (fun x hx y hy=>CJ hF ((hv x).1 hx) ((hv y).1 hy)) (fun x _=>by rw [k8]; omega)
   (fun x _ y _ z _ a b=>by rw [k8] at *; omega) (fun x _ y _ z _ a b=>by rw [k8] at *; omega) (hs.imp fun {a b} h=>by simp only [k8]; omega)
  simp only [h1,Option.bind_some]
  have Uc:∀ i,i ∈ S ↔ pW l i:=fun i=>by rw [h2.mem_iff,hv]
  have RM:S.length≤l.length:=by rw [h2.length_eq]; omega
  obtain ⟨r,h4,h5⟩:=xq hF hl hb h3 (fun i hi=>(Uc i).1 hi) RM F 0 [] ⟨[],S,rfl,rfl,⟨by simp,by simp,by simp,by simp,by simp,by simp⟩⟩ (by simp; omega)
  exact ⟨r,h4,S,Uc,RM,h5⟩
structure pZ (l:List aL) (cl:List Int) (gs:List ej):Prop where
 first:∀ g ∈ gs,pW l g.first
 each:∀ t,pW l t→∃ g ∈ gs,dR (sat l g.first) (sat l t)=0∧g.first≤t
 J8:∀ g ∈ gs,(g.dS=true ↔ ∃ t,pW l t∧dR (sat l g.first) (sat l t)=0∧diff l cl g.first t)
 IQ:gs.Pairwise fun g h=>dR (sat l g.first) (sat l h.first)<0
 len:gs.length≤l.length
theorem EK {F:Nat} (hF:10≤F) {l:List aL} {cl:List Int} (hl:l.length=cl.length) (hb:l.length<1000000) (Hl:l.length<F):∃ gs,Ce F l cl=some gs∧pZ l cl gs:=by
 obtain ⟨r,h1,S,h2,h3,h4⟩:=vO hF hl hb Hl F 0 [] ⟨0,rfl,by omega,by simp,by simp,fun i=>by simp [pW]; omega⟩ (by simpa using Hl)
 refine ⟨r,h1,fun g hg=>(h2 _).1 (h4.first g hg),fun t ht=>h4.each t ((h2 t).2 ht),fun g hg=>?_,h4.IQ,Nat.le_trans h4.len h3⟩
 rw [h4.J8 g hg]
 simp only [h2]
end Go.Sh
namespace Go.Sh
open Go.L
theorem zX {l:List aL} {cl:List Int} {gs:List ej} (hl:l.length=cl.length) (hG:pZ l cl gs) (i:Int):(0≤i∧counts l cl i.toNat) ↔ ∃ g ∈ gs,g.dS=false∧g.first=i:=by
 have IY:∀ a b:Int,pW l a→pW l b→(um l cl a.toNat b.toNat ↔ dR (sat l a) (sat l b)=0∧((sat l a).Time ≠ (sat l b).Time ∨ cat cl a ≠ cat cl b)):=fun a b ha hb=>by
  unfold um Hu
  rw [dZ,kM ha,kM hb,zr ha hl,zr hb hl]
  simp only [Option.some.injEq]
  constructor
  ·rintro ⟨x,y,c,d,rfl,rfl,rfl,rfl,h⟩; exact h
  ·intro h; exact ⟨_,_,_,_,rfl,rfl,rfl,rfl,h⟩
 have heq:∀ x y:aL,dR x y=0→(x=y ↔ x.Time=y.Time):=fun x y h=>by
  rw [dZ] at h
  cases x; cases y; simp at h ⊢; simp [h]
 constructor
 ·rintro ⟨h0,hc⟩
  have hv:pW l i:=⟨h0,hc.1⟩
  obtain ⟨g,hg,h1,h2⟩:=hG.each i hv
  have vg:=hG.first g hg
  have hnd:∀ t,pW l t→¬ (dR (sat l i) (sat l t)=0∧((sat l i).Time ≠ (sat l t).Time ∨ cat cl i ≠ cat cl t)):=fun t ht h=>(hc.2 t.toNat ht.2).1 ((IY i t hv ht).2 h)
  have Vc:dR (sat l i) (sat l g.first)=0:=by rw [dZ] at *; omega
  have QZ:g.first=i:=by
   by_cases dY:g.first<i
   ·have a1:=hnd _ vg
    have a2:sat l g.first=sat l i:=(heq _ _ h1).2 (Decidable.byContradiction fun ew=>a1 ⟨Vc,.inl fun h=>ew h.symm⟩)
    have a3:=(hc.2 g.first.toNat vg.2).2 (by have:=vg.1; omega)
    rw [kM vg,kM hv,a2] at a3
    exact absurd rfl a3
   ·omega
  refine ⟨g,hg,?_,QZ⟩
  cases hd:g.dS with
  | false=>rfl
  | true =>
   obtain ⟨t,ht,b1,b2⟩:=(hG.J8 g hg).1 hd
   rw [QZ] at b1 b2
   refine absurd ?_ (hnd t ht)
   refine ⟨b1,?_⟩
   rcases b2 with b2 | b2
   ·exact .inl fun h=>b2 ((heq _ _ b1).2 h)
   ·exact .inr b2
 ·rintro ⟨g,hg,hd,rfl⟩
  have vg:=hG.first g hg
  refine ⟨vg.1,vg.2,fun k hk=>?_⟩
  have vk:pW l (k:Int):=⟨by omega,by simpa using hk⟩
  constructor
  ·intro h
   have h':=(IY g.first k vg vk).1 (by simpa using h)
   have:g.dS=true:=(hG.J8 g hg).2 ⟨k,vk,h'.1,by
    rcases h'.2 with h | h
    ·exact .inl fun he=>h (by rw [he])
    ·exact .inr h⟩
   rw [hd] at this; cases this
  ·intro dY he
   have Aj:sat l k=sat l g.first:=by
    have:=kM vk
    simp only [Int.toNat_natCast] at this
    rw [this,kM vg] at he; exact Option.some.inj he
   obtain ⟨g',sM,h1,h2⟩:=hG.each k vk
   have VD:dR (sat l g'.first) (sat l g.first)=0:=by rw [← Aj]; exact h1
   have:g'=g:=by
    by_cases h:g'=g
    ·exact h
    ·have ha:=hG.IQ
     have:dR (sat l g'.first) (sat l g.first)<0 ∨ dR (sat l g.first) (sat l g'.first)<0:=by
      obtain ⟨a,QU⟩:=List.mem_iff_getElem.1 sM
      obtain ⟨b,il⟩:=List.mem_iff_getElem.1 hg
      rw [List.pairwise_iff_getElem] at ha
      obtain ⟨la,rfl⟩:=QU
      obtain ⟨lb,rfl⟩:=il
      rcases Nat.lt_trichotomy a b with h3 | h3 | h3
      ·exact .inl (ha a b la lb h3)
      ·subst h3; exact absurd rfl h
      ·exact .inr (ha b a lb la h3)
     rw [dZ] at VD; rw [fw,fw] at this; omega
   subst this
   have:=vg.1; omega
theorem Ew {F:Nat} (hF:10≤F) {l:List aL} {i j:Int} (hi:pW l i) (hj:pW l j):Dt F i j l=some (gY (sat l i) (sat l j)):=by
 simp only [Dt,nC hi,nC hj,tW hF,Option.bind_some]
def ij (gs:List ej):List Int:=(gs.filter fun g=>!g.dS).map (·.first)
theorem z8 (gs:List ej):(ij gs).length≤gs.length:=by
 unfold ij; rw [List.length_map]; exact List.length_filter_le _ _
theorem so {F:Nat} (hF:10≤F) {l:List aL} {cl:List Int} (hl:l.length=cl.length) (hb:l.length<1000000) {gs:List ej} (hG:pZ l cl gs) :
  ∀ n (k:Int) (acc:List Int),(∃ p s,gs=p++s∧k=(p.length:Int)∧acc=ij p)→(gs.length - k.toNat)<n→∃ r,Dr F l gs n k acc=some r∧Canon l cl r:=by
 refine BW (L:=Dr F l gs) (B:=Gz F l gs) (fun _=>rfl) _ (fun (k:Int) (_:List Int)=>gs.length - k.toNat) _ ?_
 rintro rec k acc ⟨p,s,rq,rfl,rfl⟩ pB
 unfold Gz
 have Ng:=hG.len
 have wV:p.length≤gs.length:=by rw [rq]; simp
 have CR:=z8 p
 cases s with
 | cons g s =>
  have d1:decide ((p.length:Int)<(gs.length:Int))=true:=by rw [rq]; exact HC p g s
  have BO:idx gs (p.length:Int)=some g:=by rw [rq]; exact jz p g s
  have hm:gs.length - ((p++[g]).length:Int).toNat<gs.length - (p.length:Int).toNat:=by
   have:=congrArg List.length rq; simp at this ⊢; omega
  simp only [d1,if_true,BO,Option.bind_some,LF p g (by omega)]
  cases hd:g.dS with
  | false =>
   simp only [Bool.not_false,if_true]
   rw [c6 (by simp; omega)]
   exact pB _ _ ⟨p++[g],s,by simp [rq],rfl,by simp [ij,hd]⟩ hm
  | true =>
   simp only [Bool.not_true,Bool.false_eq_true,if_false]
   exact pB _ _ ⟨p++[g],s,by simp [rq],rfl,by simp [ij,hd]⟩ hm
 | nil =>
  have KT:gs=p:=by simpa using rq
  subst KT
  have d1:decide ((gs.length:Int)<(gs.length:Int))=false:=by simp
  simp only [d1,Bool.false_eq_true,if_false]
  have gE:∀ i,i ∈ ij gs ↔ 0≤i∧counts l cl i.toNat:=fun i=>by
   rw [zX hl hG]
   simp only [ij,List.mem_map,List.mem_filter,Bool.not_eq_eq_eq_not,Bool.not_true]
   constructor
   ·rintro ⟨g,⟨h1,h2⟩,h3⟩; exact ⟨g,h1,h2,h3⟩
   ·rintro ⟨g,h1,h2,h3⟩; exact ⟨g,⟨h1,h2⟩,h3⟩
  have xH:∀ i ∈ ij gs,pW l i:=fun i hi=>by have:=(gE i).1 hi; exact ⟨this.1,this.2.1⟩
  have hnd:(ij gs).Pairwise fun a b=>a ≠ b:=by
   unfold ij
   rw [List.pairwise_map]
   refine (hG.IQ.filter _).imp fun {a b} h he=>?_
   rw [he,fw] at h; omega
  have dY:∀ i j,pW l i→pW l j→(gY (sat l i) (sat l j)<0 ↔ kT l i j):=fun i j hi hj=>by
   unfold kT; rw [kM hi,kM hj]
   constructor
   ·intro h; exact ⟨_,_,rfl,rfl,h⟩
   ·rintro ⟨x,y,h1,h2,h3⟩; cases h1; cases h2; exact h3
  obtain ⟨a,h1,h2,h3⟩:=y3 (c:=fun a0 a1=>Dt F a0 a1 l) (xs:=ij gs) (fun i j=>gY (sat l i) (sat l j)) (by omega) (fun x hx y hy=>Ew hF (xH x hx) (xH y hy)) (fun x _=>by rw [ig]; omega)
   (fun x _ y _ z _ p q=>by rw [ig] at *; omega) (fun x _ y _ z _ p q=>by rw [ig] at *; omega) (List.Pairwise.imp_of_mem (fun {x y} hx hy ew=>by
    have cx:=(gE x).1 hx
    have cy:=(gE y).1 hy
    have:=oj cx.2 cy.2 (fun h=>ew (by omega))
    rw [Int.toNat_of_nonneg cx.1,Int.toNat_of_nonneg cy.1,← dY x y (xH x hx) (xH y hy),← dY y x (xH y hy) (xH x hx)] at this
    exact this) hnd)
  have EO:kD l cl a:=⟨List.Pairwise.imp_of_mem (fun {x y} hx hy h=>(dY x y (xH x (h2.mem_iff.1 hx)) (xH y (h2.mem_iff.1 hy))).1 h) h3,fun i=>by rw [h2.mem_iff]; exact gE i⟩
  have hlen:(ij gs).length=a.length:=h2.length_eq.symm
  by_cases MX:300<a.length
  ·have:decide (((ij gs).length:Int) > 300)=true:=by simp; omega
   simp only [this,if_true]
   refine ⟨_,rfl,?_⟩
   unfold Canon; rw [if_neg (by omega)]
   exact ⟨a,EO,by rw [if_pos MX]⟩
  ·have:decide (((ij gs).length:Int) > 300)=false:=by simp; omega
   simp only [this,Bool.false_eq_true,if_false,h1,Option.bind_some]
   refine ⟨_,rfl,?_⟩
   unfold Canon; rw [if_neg (by omega)]
   exact ⟨a,EO,by rw [if_neg MX]⟩
theorem xj {F:Nat} (hF:10≤F) {l:List aL} {cl:List Int} (hb:l.length<1000000) (Hl:l.length<F):∃ r,Dy F l cl=some r∧Canon l cl r:=by
 unfold Dy
 by_cases hl:l.length=cl.length
 ·have:((l.length:Int) != (cl.length:Int))=false:=by simp; omega
  simp only [this,Bool.false_eq_true,if_false]
  obtain ⟨gs,h1,h2⟩:=EK hF hl hb Hl
  simp only [h1,Option.bind_some]
  have:=h2.len
  exact so hF hl hb h2 F 0 [] ⟨[],gs,rfl,rfl,rfl⟩ (by simp; omega)
 ·have:((l.length:Int) != (cl.length:Int))=true:=by simp; omega
  simp only [this,if_true]
  exact ⟨_,rfl,by unfold Canon; rw [if_pos hl]⟩
end Go.Sh
namespace Go.Sh
open Go.L
def okB (l:List aL) (i:Nat):Bool:=match l[i]? with | some x=>x.p9 | .none=>false
theorem wg {l:List aL} {i:Nat}:okB l i=true ↔ th l i:=by
 unfold okB th; cases l[i]? <;> simp
def BA (l:List aL) (cl:List Int) (i k:Nat):Bool:=match l[i]?,l[k]?,cl[i]?,cl[k]? with
 | some x,some y,some c,some d=>decide (x.Source=y.Source) && decide (x.Seq=y.Seq) && (decide (x.Time ≠ y.Time) || decide (c ≠ d))
 | _,_,_,_=>false
theorem uN {l:List aL} {cl:List Int} {i k:Nat}:BA l cl i k=true ↔ um l cl i k:=by
 unfold BA um Hu
 cases l[i]? with
 | none=>simp
 | some x=>cases l[k]? with
  | none=>simp
  | some y=>cases cl[i]? with
   | none=>simp
   | some c=>cases cl[k]? with
    | none=>simp
    | some d=>simp [and_assoc]
def nh (l:List aL) (cl:List Int) (i:Nat):Bool:=okB l i && (List.range l.length).all fun k=>!okB l k || (!BA l cl i k && (!decide (k<i) || decide (l[k]? ≠ l[i]?)))
theorem qA {l:List aL} {cl:List Int} {i:Nat}:nh l cl i=true ↔ counts l cl i:=by
 unfold nh counts
 simp only [Bool.and_eq_true,wg,List.all_eq_true,List.mem_range,Bool.or_eq_true,Bool.not_eq_true',decide_eq_true_eq,decide_eq_false_iff_not]
 constructor
 ·rintro ⟨h1,h2⟩
  refine ⟨h1,fun k hk=>?_⟩
  have Ho:k<l.length:=by
   by_cases h:k<l.length
   ·exact h
   ·exact absurd hk (B0 (by omega))
  rcases h2 k Ho with h | ⟨h3,h4⟩
  ·have:=wg.2 hk; rw [h] at this; cases this
  ·refine ⟨fun h=>?_,fun h=>h4.resolve_left (by omega)⟩
   have:=uN.2 h; rw [h3] at this; cases this
 ·rintro ⟨h1,h2⟩
  refine ⟨h1,fun k hk=>?_⟩
  cases gM:okB l k with
  | false=>exact .inl rfl
  | true =>
   right
   have:=h2 k (wg.1 gM)
   refine ⟨?_,?_⟩
   ·cases hd:BA l cl i k with
    | false=>rfl
    | true=>exact absurd (uN.1 hd) this.1
   ·by_cases h:k<i
    ·exact .inr (this.2 h)
    ·exact .inl h
def Ra (l:List aL) (a b:Int):Bool:=match l[a.toNat]?,l[b.toNat]? with
 | some x,some y=>decide (gY x y<0)
 | _,_=>false
theorem rL {l:List aL} {a b:Int}:Ra l a b=true ↔ kT l a b:=by
 unfold Ra kT
 cases l[a.toNat]? with
 | none=>simp
 | some x=>cases l[b.toNat]? with
  | none=>simp
  | some y=>simp
def ju (l:List aL) (cl:List Int):List Int:=pG (Ra l) (((List.range l.length).filter (nh l cl)).map Int.ofNat)
theorem nf (l:List aL) (cl:List Int):kD l cl (ju l cl):=by
 have gE:∀ i,i ∈ ((List.range l.length).filter (nh l cl)).map Int.ofNat ↔ 0≤i∧counts l cl i.toNat:=fun i=>by
  simp only [List.mem_map,List.mem_filter,List.mem_range,qA]
  constructor
  ·rintro ⟨k,⟨h1,h2⟩,rfl⟩; exact ⟨by simp,by simpa using h2⟩
  ·rintro ⟨h1,h2⟩; exact ⟨i.toNat,⟨jW h2,h2⟩,by simp; omega⟩
 constructor
 ·have:=lL (lt:=Ra l) (l:=((List.range l.length).filter (nh l cl)).map Int.ofNat) (fun a _ b _ c _ h1 h2=>by rw [rL] at *; exact oJ l a b c h1 h2) (by
   rw [List.pairwise_map]
   refine List.Pairwise.imp_of_mem (fun {a b} ha hb o4=>?_) ((List.pairwise_lt_range (n:=l.length)).filter _)
   rw [rL,rL]
   simp only [List.mem_filter,qA] at ha hb
   exact oj ha.2 hb.2 (by omega))
  exact this.imp fun h=>rL.1 h
 ·intro i
  rw [ju,gT.mem_iff]; exact gE i
def oi (l:List aL) (cl:List Int):List Int × Int:=if l.length ≠ cl.length then ([],1) else if 300<(ju l cl).length then ([],3) else (ju l cl,0)
theorem uK (l:List aL) (cl:List Int):Canon l cl (oi l cl):=by
 unfold Canon oi
 split
 ·rfl
 ·exact ⟨ju l cl,nf l cl,rfl⟩
theorem xi {F:Nat} (hF:10≤F) {l:List aL} {cl:List Int} (hb:l.length<1000000) (Hl:l.length<F):Dy F l cl=some (oi l cl):=by
 obtain ⟨r,h1,h2⟩:=xj hF (cl:=cl) hb Hl
 rw [h1,h2.unique (uK l cl)]
theorem tH {F:Nat} {l:List aL} {cl:List Int} (hb:l.length<1000000) (Hl:l.length<F):Dw F l cl=some (oi l cl):=by
 obtain ⟨r,h1,h2⟩:=tI (cl:=cl) hb Hl
 rw [h1,h2.unique (uK l cl)]
structure Tp (t:aP):Prop where
 len:t.L.length≤600
 lo:0≤t.At
 hi:t.At≤600
theorem Pp (l:List Int):∃ t,lp l=some t∧Tp t:=by
 unfold lp
 by_cases h:(l.length:Int) > 600
 ·simp only [h,decide_true,if_true]
  rw [show (600:Int)=((600:Nat):Int) from rfl,y2 (by omega)]
  exact ⟨_,rfl,⟨by simp; omega,by simp,by simp⟩⟩
 ·simp only [h,decide_false,Bool.false_eq_true,if_false]
  exact ⟨_,rfl,⟨by simp; omega,by simp,by simp⟩⟩
theorem Qk {t:aP} (h:Tp t):∃ x t',Eo t=some (x,t')∧Tp t':=by
 have h1:=h.len; have h2:=h.lo; have h3:=h.hi
 unfold Eo
 by_cases hc:t.At ≥ (t.L.length:Int)
 ·simp only [hc,decide_true,if_true]; exact ⟨_,_,rfl,h⟩
 ·simp only [hc,decide_false,Bool.false_eq_true,if_false]
  rw [cO (n:=t.At+1) (by omega) (by omega),cO (by omega) (by omega)]
  have hx:idx t.L (t.At+1 - 1)=some t.L[t.At.toNat]:=by
   rw [gF,show t.At+1 - 1=t.At by omega]
   exact ⟨h2,by simp⟩
  rw [hx]
  exact ⟨_,_,rfl,⟨h1,by simp; omega,by simp; omega⟩⟩
theorem EB (x n:Int) (hn:n≤1000000000):∃ r,kg x n=some r∧0≤r∧(1≤n→r<n)∧(n<1→r=0):=by
 unfold kg
 by_cases h:n<1
 ·simp only [h,decide_true,if_true]; exact ⟨0,rfl,by omega,by omega,by omega⟩
 ·simp only [h,decide_false,Bool.false_eq_true,if_false]
  have hr:Qo x n=some (x.tmod n):=by unfold Qo; rw [if_neg (by omega)]
  simp only [hr,Option.bind_some]
  have b1:x.tmod n<n:=Int.tmod_lt_of_pos x (by omega)
  have b2:-n<x.tmod n:=by
   have:=Int.lt_tmod_of_pos x (show 0<n by omega)
   omega
  by_cases h0:x.tmod n<0
  ·simp only [h0,decide_true,if_true]
   rw [cO (by omega) (by omega)]
   exact ⟨_,rfl,by omega,fun _=>by omega,fun hh=>hh.elim⟩
  ·simp only [h0,decide_false,Bool.false_eq_true,if_false]
   exact ⟨_,rfl,by omega,fun _=>by omega,fun hh=>hh.elim⟩
theorem td {t:aP} (h:Tp t) (n:Int) (hn:n≤1000000000):∃ x t',ja t n=some (x,t')∧Tp t'∧0≤x∧(1≤n→x<n)∧(n<1→x=0):=by
 obtain ⟨x,t',h1,h2⟩:=Qk h
 obtain ⟨r,h3,h4⟩:=EB x n hn
 exact ⟨r,t',by simp [ja,h1,h3],h2,h4⟩
theorem rQ {t:aP} (h:Tp t) (a b:Int) (ha:-1000≤a) (o4:a≤b) (hb:b≤100000000):∃ x t',kO t a b=some (x,t')∧Tp t'∧a≤x∧x≤b:=by
 obtain ⟨x,t',h1,h2,h3,h4,_⟩:=td h (b - a+1) (by omega)
 refine ⟨a+x,t',?_,h2,by omega,by have:=h4 (by omega); omega⟩
 have:=h4 (by omega)
 simp only [kO]
 rw [cO (n:=b - a) (by omega) (by omega),cO (n:=b - a+1) (by omega) (by omega),h1]
 simp only [Option.bind_some]
 rw [cO (by omega) (by omega)]
theorem Jw {t:aP} (h:Tp t) (n:Int) (hn:n≤1000000000):∃ b t',oc t n=some (b,t')∧Tp t':=by
 obtain ⟨x,t',h1,h2,_⟩:=td h n hn
 exact ⟨(x == i64 (n - 1)),t',by simp only [oc,h1,Option.bind_some],h2⟩
theorem Ga {t:aP} (h:Tp t) (l:List Int) (hl:1≤l.length) (BP:l.length≤1000):∃ x t',ui t l=some (x,t')∧Tp t'∧x ∈ l:=by
 obtain ⟨x,t',h1,h2,h3,h4,_⟩:=td h l.length (by omega)
 have:=h4 (by omega)
 have hx:idx l x=some l[x.toNat]:=by rw [gF]; exact ⟨h3,by simp⟩
 exact ⟨l[x.toNat],t',by simp only [ui,h1,Option.bind_some,hx],h2,by simp⟩
theorem Hf {t:aP} (h:Tp t):∃ x t',rY t=some (x,t')∧Tp t':=by
 obtain ⟨x,t',h1,h2,_⟩:=Ga h [(-1),0,1,2,31,32,99,100,200,201,9999,10000,1000000,1000001,1152921504606846976,1152921504606846977,(-1152921504606846976),9223372036854775807,(-9223372036854775808)] (by simp) (by simp)
 exact ⟨x,t',by simp only [rY,h1,Option.bind_some],h2⟩
theorem G5 {t:aP} (h:Tp t):Tp (aP.mk t.L t.At):=h
theorem G6 {t:aP} (h:Tp t) (n:Int) (hn:n≤1000000):∃ x t',Cr t n=some (x,t')∧Tp t':=by
 obtain ⟨a,t1,a1,a2,_⟩:=rQ h 0 24 (by omega) (by omega) (by omega)
 obtain ⟨b,t2,b1,b2,_⟩:=rQ a2 0 3 (by omega) (by omega) (by omega)
 obtain ⟨c,t3,c1,c2,_⟩:=rQ b2 0 9 (by omega) (by omega) (by omega)
 simp only [Cr,a1,b1,c1,Option.bind_some]
 by_cases hp:n > 0
 ·obtain ⟨d,t4,d1,d2⟩:=Jw c2 n (by omega)
  simp only [hp,decide_true,if_true,d1,Option.bind_some]
  cases d with
  | false=>exact ⟨_,_,rfl,G5 d2⟩
  | true =>
   obtain ⟨e,t5,e1,e2,_⟩:=td (G5 d2) 3 (by omega)
   obtain ⟨w,t6,w1,w2⟩:=Hf e2
   simp only [if_true,e1,w1,Option.bind_some]
   split
   ·exact ⟨_,_,rfl,w2⟩
   ·split
    ·exact ⟨_,_,rfl,w2⟩
    ·exact ⟨_,_,rfl,w2⟩
 ·simp only [hp,decide_false,Bool.false_eq_true,if_false,Option.bind_some]
  exact ⟨_,_,rfl,G5 c2⟩
end Go.Sh
namespace Go.Sh
open Go.L
def zT {E:Type} (st:E→aL) (l:List E) (e:E):Prop:=e ∈ l∧(st e).p9=true∧∀ e' ∈ l,(st e').p9=true→Hu (st e') (st e)→e'=e
structure xe {E:Type} (st:E→aL) (l C:List E):Prop where
 sorted:C.Pairwise fun a b=>gY (st a) (st b)<0
 mem:∀ e,e ∈ C ↔ zT st l e
theorem xe.unique {E:Type} {st:E→aL} {l C D:List E} (h:xe st l C) (h':xe st l D):C=D :=
 oX (R:=fun a b=>gY (st a) (st b)<0) (fun a h=>by rw [ig] at h; omega) (fun a b c h1 h2=>by rw [ig] at *; omega) h.sorted h'.sorted fun e=>by rw [h.mem,h'.mem]
theorem zT.congr {E:Type} {st:E→aL} {l m:List E} (h:∀ e,e ∈ l ↔ e ∈ m) (e:E):zT st l e ↔ zT st m e:=by
 unfold zT; simp only [h]
theorem xe.congr {E:Type} {st:E→aL} {l m C:List E} (h:∀ e,e ∈ l ↔ e ∈ m) (hC:xe st l C):xe st m C :=
 ⟨hC.sorted,fun e=>by rw [hC.mem,zT.congr h]⟩
structure rW {E:Type} (st:E→aL) (l:List E) (cl:List Int):Prop where
 len:l.length=cl.length
 iff:∀ (i:Nat) (x:E) (c:Int),l[i]?=some x→cl[i]?=some c →
  ((∀ (k:Nat) (y:E) (d:Int),l[k]?=some y→cl[k]?=some d→st y=st x→d=c) ↔ (∀ y ∈ l,st y=st x→y=x))
theorem DO {x y:aL} (h1:x.Time=y.Time) (h2:x.Source=y.Source) (h3:x.Seq=y.Seq):x=y:=by
 cases x; cases y; simp_all
theorem su {E:Type} {st:E→aL} {l:List E} {cl:List Int} (h:rW st l cl) {i:Nat} {x:E} (hx:l[i]?=some x) :
  counts (l.map st) cl i ↔ zT st l x∧∀ k,k<i→l[k]? ≠ some x:=by
 have hi:i<l.length:=(List.getElem?_eq_some_iff.1 hx).1
 have gn:i<cl.length:=by have:=h.len; omega
 obtain ⟨c,hc⟩:∃ c,cl[i]?=some c:=⟨cl[i],by simp [gn]⟩
 have key:=h.iff i x c hx hc
 have BO:(l.map st)[i]?=some (st x):=by simp [hx]
 have lA:∀ (k:Nat) (y:E),l[k]?=some y→∃ d,cl[k]?=some d:=fun k y hy=>by
  have:k<l.length:=(List.getElem?_eq_some_iff.1 hy).1
  have hk:k<cl.length:=by have:=h.len; omega
  exact ⟨cl[k],by simp [hk]⟩
 constructor
 ·rintro ⟨⟨x',h1,h2⟩,h3⟩
  rw [BO] at h1; cases h1
  have me:∀ (k:Nat) (y:E) (d:Int),l[k]?=some y→cl[k]?=some d→(st y).p9=true→Hu (st y) (st x)→(st y).Time=(st x).Time∧d=c:=fun k y d hy hd hg hs=>by
   have hk:(l.map st)[k]?=some (st y):=by simp [hy]
   have:=(h3 k ⟨st y,hk,hg⟩).1
   apply Classical.byContradiction
   intro hn
   refine this ⟨st x,st y,c,d,BO,hk,hc,hd,⟨hs.1.symm,hs.2.symm⟩,?_⟩
   by_cases ht:(st x).Time=(st y).Time
   ·exact .inr fun Vu=>hn ⟨ht.symm,Vu.symm⟩
   ·exact .inl ht
  have heq:∀ y ∈ l,st y=st x→y=x:=key.1 fun k y d hy hd hs=>(me k y d hy hd (by rw [hs]; exact h2) (by rw [hs]; exact ⟨rfl,rfl⟩)).2
  refine ⟨⟨List.mem_of_getElem? hx,h2,fun y hy hg hs=>?_⟩,fun k hk VM=>?_⟩
  ·obtain ⟨k,hk⟩:=List.getElem?_of_mem hy
   obtain ⟨d,hd⟩:=lA k y hk
   exact heq y hy (DO (me k y d hk hd hg hs).1 hs.1 hs.2)
  ·have Ur:(l.map st)[k]?=some (st x):=by simp [VM]
   exact (h3 k ⟨st x,Ur,h2⟩).2 hk (by rw [Ur,BO])
 ·rintro ⟨⟨h1,h2,h3⟩,h4⟩
  refine ⟨⟨st x,BO,h2⟩,fun k hk=>⟨?_,fun xC he=>?_⟩⟩
  ·rintro ⟨x',y',c',d,a1,a2,a3,a4,a5,a6⟩
   rw [BO] at a1; cases a1
   rw [hc] at a3; cases a3
   simp only [List.getElem?_map,Option.map_eq_some_iff] at a2
   obtain ⟨y,hy,rfl⟩:=a2
   have VE:(st y).p9=true:=by
    obtain ⟨z,b1,b2⟩:=hk
    simp only [List.getElem?_map,hy,Option.map_some,Option.some.injEq] at b1
    rw [b1]; exact b2
   have Hr:y=x:=h3 y (List.mem_of_getElem? hy) VE ⟨a5.1.symm,a5.2.symm⟩
   subst Hr
   rcases a6 with a6 | a6
   ·exact a6 rfl
   ·refine a6 (key.2 (fun z hz UG=>h3 z hz (by rw [UG]; exact h2) (by rw [UG]; exact ⟨rfl,rfl⟩)) k y d hy a4 rfl).symm
  ·obtain ⟨z,b1,b2⟩:=hk
   rw [b1,BO] at he
   cases he
   simp only [List.getElem?_map,Option.map_eq_some_iff] at b1
   obtain ⟨y,hy,Hr⟩:=b1
   have:y=x:=h3 y (List.mem_of_getElem? hy) (by rw [Hr]; exact h2) (by rw [Hr]; exact ⟨rfl,rfl⟩)
   subst this
   exact h4 k xC hy
theorem qE {E:Type} [DecidableEq E] {x:E}:∀ {l:List E},x ∈ l→∃ i:Nat,l[i]?=some x∧∀ k,k<i→l[k]? ≠ some x
  | [],h=>by simp at h
  | y :: r,h=>by
    by_cases lI:y=x
    · exact ⟨0,by simp [lI],by omega⟩
    · have hr : x ∈ r := by rcases List.mem_cons.1 h with h | h
                            · exact absurd h.symm lI
                            · exact h
      obtain ⟨i,h1,h2⟩:=qE hr
      refine ⟨i+1,by simpa using h1,fun k hk=>?_⟩
      cases k with
      | zero=>simpa using lI
      | succ k=>simpa using h2 k (by omega)
def hJ {E:Type} (l:List E) (a:List Int):List E:=a.filterMap fun i=>l[i.toNat]?
theorem nB {E:Type} {l:List E}:∀ {a:List Int},(∀ i ∈ a,i.toNat<l.length)→(hJ l a).length=a.length
 | [],_=>rfl
 | i :: a,h=>by
  have hi:=h i (by simp)
  have:=nB (l:=l) (a:=a) fun j hj=>h j (by simp [hj])
  simp only [hJ] at this
  simp [hJ,hi,this]
theorem BT {E:Type} [DecidableEq E] {st:E→aL} {l:List E} {cl:List Int} (h:rW st l cl) {a:List Int} (ha:kD (l.map st) cl a):xe st l (hJ l a):=by
 have dY:∀ i ∈ a,i.toNat<l.length:=fun i hi=>by have:=jW ((ha.mem i).1 hi).2; simpa using this
 refine ⟨?_,fun e=>?_⟩
 ·unfold hJ
  rw [List.pairwise_filterMap]
  refine List.Pairwise.imp_of_mem (fun {i j} hi hj rI=>?_) ha.sorted
  intro x hx y hy
  obtain ⟨p,q,h1,h2,h3⟩:=rI
  simp only [List.getElem?_map,Option.map_eq_some_iff] at h1 h2
  obtain ⟨x',h4,rfl⟩:=h1
  obtain ⟨y',h5,rfl⟩:=h2
  simp_all
 ·simp only [hJ,List.mem_filterMap]
  constructor
  ·rintro ⟨i,hi,hx⟩
   exact ((su h hx).1 ((ha.mem i).1 hi).2).1
  ·intro he
   obtain ⟨i,h1,h2⟩:=qE he.1
   exact ⟨(i:Int),(ha.mem _).2 ⟨by omega,by simpa using (su h h1).2 ⟨he,h2⟩⟩,by simpa using h1⟩
def my {E:Type} [DecidableEq E] (l:List E):List Int:=l.map fun x=>(l.findIdx (fun y=>decide (y=x)):Int)
theorem vK {E:Type} [DecidableEq E] (st:E→aL) (l:List E):rW st l (my l):=by
 refine ⟨by simp [my],fun i x c hx hc=>?_⟩
 have IX:c=(l.findIdx (fun y=>decide (y=x)):Int):=by simp [my,hx] at hc; exact hc.symm
 constructor
 ·intro h y hy hs
  obtain ⟨k,hk⟩:=List.getElem?_of_mem hy
  have:=h k y (l.findIdx (fun z=>decide (z=y)):Int) hk (by simp [my,hk]) hs
  rw [IX] at this
  have hf:l.findIdx (fun z=>decide (z=y))=l.findIdx (fun z=>decide (z=x)):=by omega
  have dY:l.findIdx (fun z=>decide (z=x))<l.length:=List.findIdx_lt_length_of_exists ⟨x,List.mem_of_getElem? hx,by simp⟩
  have e1:=List.findIdx_getElem (xs:=l) (p:=fun z=>decide (z=x)) (w:=dY)
  have KK:l.findIdx (fun z=>decide (z=y))<l.length:=by rw [hf]; exact dY
  have e2:=List.findIdx_getElem (xs:=l) (p:=fun z=>decide (z=y)) (w:=KK)
  simp only [decide_eq_true_eq] at e1 e2
  rw [← e1,← e2]
  simp only [hf]
 ·intro h k y d hy hd hs
  have:=h y (List.mem_of_getElem? hy) hs
  subst this
  simp [my,hy] at hd
  rw [IX,← hd]
def sr {E:Type} [DecidableEq E] (st:E→aL) (l:List E):List Int:=l.map fun x=>if l.find? (fun y=>decide (st y=st x))=some x then 0 else 1
theorem Bz {E:Type} [DecidableEq E] (st:E→aL) (l:List E):rW st l (sr st l):=by
 refine ⟨by simp [sr],fun i x c hx hc=>?_⟩
 have IX:c=if l.find? (fun y=>decide (st y=st x))=some x then 0 else 1:=by simp [sr,hx] at hc; exact hc.symm
 obtain ⟨f,hf⟩:∃ f,l.find? (fun y=>decide (st y=st x))=some f:=by
  cases h:l.find? (fun y=>decide (st y=st x)) with
  | none=>rw [List.find?_eq_none] at h; exact absurd (h x (List.mem_of_getElem? hx)) (by simp)
  | some f=>exact ⟨f,rfl⟩
 have Up:st f=st x:=by simpa using List.find?_some hf
 have Vz:f ∈ l:=List.mem_of_find?_eq_some hf
 have Um:∀ y,st y=st x→l.find? (fun z=>decide (st z=st y))=some f:=fun y hy=>by rw [hy]; exact hf
 constructor
 ·intro h
  obtain ⟨k,hk⟩:=List.getElem?_of_mem Vz
  have h0:=h k f 0 hk (by simp [sr,hk,Um f Up]) Up
  have me:∀ y ∈ l,st y=st x→y=f:=fun y hy hs=>by
   obtain ⟨j,hj⟩:=List.getElem?_of_mem hy
   have:=h j y _ hj (by simp only [sr,List.getElem?_map,hj,Option.map_some]; rfl) hs
   rw [← h0,Um y hs] at this
   by_cases he:f=y
   ·exact he.symm
   ·rw [if_neg (by simpa using he)] at this; omega
  intro y hy hs
  rw [me y hy hs,me x (List.mem_of_getElem? hx) rfl]
 ·intro h k y d hy hd hs
  have:=h y (List.mem_of_getElem? hy) hs
  subst this
  simp only [sr,List.getElem?_map,hy,Option.map_some,Option.some.injEq] at hd
  rw [IX,← hd]
def Hk {E:Type} [DecidableEq E] (st:E→aL) (l:List E):List E:=hJ l (ju (l.map st) (my l))
theorem EF {E:Type} [DecidableEq E] (st:E→aL) (l:List E):xe st l (Hk st l):=BT (vK st l) (nf _ _)
theorem EG {E:Type} [DecidableEq E] {st:E→aL} {l:List E} {cl:List Int} (h:rW st l cl):hJ l (ju (l.map st) cl)=Hk st l :=
 (BT h (nf _ _)).unique (EF st l)
theorem p7 {l:List aL} {cl:List Int} {i:Int} (h:i ∈ ju l cl):0≤i∧i.toNat<l.length:=by
 have:=((nf l cl).mem i).1 h; exact ⟨this.1,jW this.2⟩
theorem BH {E:Type} [DecidableEq E] {st:E→aL} {l:List E} {cl:List Int} (h:rW st l cl):(ju (l.map st) cl).length=(Hk st l).length:=by
 rw [← EG h,nB]
 intro i hi; have:=(p7 hi).2; simpa using this
theorem uJ {E:Type} [DecidableEq E] {st:E→aL} {l:List E} {cl:List Int} (h:rW st l cl):oi (l.map st) cl=if 300<(Hk st l).length then ([],3) else (ju (l.map st) cl,0):=by
 have h1:=h.len
 unfold oi
 rw [if_neg (by simpa using h1),BH h]
theorem C4 {α:Type} {lt:α→α→Bool} (l:List α):(pG lt l).length=l.length:=gT.length_eq
theorem oh (l:List aL) (cl:List Int):(ju l cl).length≤l.length:=by
 unfold ju
 rw [C4,List.length_map]
 have:=List.length_filter_le (nh l cl) (List.range l.length)
 simpa using this
theorem Ka {E:Type} [DecidableEq E] (st:E→aL) (l:List E):(Hk st l).length≤l.length:=by
 rw [← BH (vK st l)]
 have:=oh (l.map st) (my l)
 simpa using this
def gK {E:Type} [DecidableEq E] (st:E→aL) (l:List E):List E × Int:=if 300<(Hk st l).length then ([],3) else (Hk st l,0)
end Go.Sh
namespace Go.Sh
open Go.L
def run {α σ R:Type} (g:Nat→α→σ→R ⊕ σ) (e:σ→R):Nat→List α→σ→R
 | _,[],s=>e s
 | i,x :: l,s=>match g i x s with | .inl r=>r | .inr s'=>run g e (i+1) l s'
theorem Iu {α σ R:Type} {a:List α} {L:Nat→Int→σ→Option R} (g:Nat→α→σ→R ⊕ σ) (e:σ→R) (I:Nat→σ→Prop) (hb:a.length<1000000)
  (hS:∀ n (i:Nat) x s,a[i]?=some x→I i s→(match g i x s with | .inl r=>L (n+1) (i:Int) s=some r | .inr s'=>L (n+1) (i:Int) s=L n ((i+1:Nat):Int) s'∧I (i+1) s'))
  (hE:∀ n s,I a.length s→L (n+1) (a.length:Int) s=some (e s)) :
  ∀ (l p:List α) (n:Nat) (s:σ),a=p++l→l.length<n→I p.length s→L n (p.length:Int) s=some (run g e p.length l s):=by
 intro l
 induction l with
 | nil=>intro p n s hp hn hI; cases n with
  | zero=>omega
  | succ n =>
   have:a=p:=by simpa using hp
   subst this
   rw [hE n s hI]; rfl
 | cons x l ih=>intro p n s hp hn hI; cases n with
  | zero=>omega
  | succ n =>
   have hx:a[p.length]?=some x:=by rw [hp]; simp
   have:=hS n p.length x s hx hI
   unfold run
   cases hg:g p.length x s with
   | inl r=>rw [hg] at this; exact this
   | inr s' =>
    rw [hg] at this
    obtain ⟨h1,h2⟩:=this
    rw [h1]
    have e1:p.length+1=(p++[x]).length:=by simp
    rw [e1] at h2 ⊢
    exact ih (p++[x]) n s' (by rw [hp]; simp) (by simpa using hn) h2
theorem GR {α σ R:Type} {a:List α} {L:Nat→Int→σ→Option R} (g:Nat→α→σ→R ⊕ σ) (e:σ→R) (I:Nat→σ→Prop) {s0:σ} {F:Nat} (hb:a.length<1000000)
  (hS:∀ n (i:Nat) x s,a[i]?=some x→I i s→(match g i x s with | .inl r=>L (n+1) (i:Int) s=some r | .inr s'=>L (n+1) (i:Int) s=L n ((i+1:Nat):Int) s'∧I (i+1) s'))
  (hE:∀ n s,I a.length s→L (n+1) (a.length:Int) s=some (e s)) (hF:a.length<F) (h0:I 0 s0):L F 0 s0=some (run g e 0 a s0) :=
 Iu g e I hb hS hE a [] F s0 rfl hF h0
def scan {α R:Type} (g:Nat→α→Option R) (e:R):Nat→List α→R
 | _,[]=>e
 | i,x :: l=>match g i x with | some r=>r | .none=>scan g e (i+1) l
theorem e7 {α R:Type} {a:List α} {L:Nat→Int→Option R} (g:Nat→α→Option R) (e:R) {F:Nat} (hb:a.length<1000000)
  (hS:∀ n (i:Nat) x,a[i]?=some x→i<1000000→L (n+1) (i:Int)=match g i x with | some r=>some r | .none=>L n ((i+1:Nat):Int))
  (hE:∀ n,L (n+1) (a.length:Int)=some e) (hF:a.length<F):L F 0=some (scan g e 0 a):=by
 have key:∀ (l p:List α) (n:Nat),a=p++l→l.length<n→L n (p.length:Int)=some (scan g e p.length l):=by
  intro l
  induction l with
  | nil=>intro p n hp hn; cases n with
   | zero=>omega
   | succ n =>
    have:a=p:=by simpa using hp
    subst this
    rw [hE n]; rfl
  | cons x l ih=>intro p n hp hn; cases n with
   | zero=>omega
   | succ n =>
    have hx:a[p.length]?=some x:=by rw [hp]; simp
    have hl:p.length<1000000:=by rw [hp] at hb; simp at hb; omega
    rw [hS n p.length x hx hl]
    unfold scan
    cases hg:g p.length x with
    | some r=>rfl
    | none =>
     simp only
     have e1:p.length+1=(p++[x]).length:=by simp
     rw [e1]
     exact ih (p++[x]) n (by rw [hp]; simp) (by simpa using hn)
 exact key a [] F rfl hF
theorem tS {α:Type} (f:α→Bool):∀ (l:List α) (i:Nat),scan (fun _ x=>if f x=true then .none else some false) true i l=l.all f
 | [],i=>rfl
 | x :: l,i=>by
  unfold scan
  rw [List.all_cons]
  cases hf:f x with
  | true=>simp [tS f l]
  | false=>simp
theorem Bu {α:Type} {a:List α} {L:Nat→Int→Option Bool} (f:α→Bool) {F:Nat} (hb:a.length<1000000)
  (hS:∀ n (i:Nat) x,a[i]?=some x→i<1000000→L (n+1) (i:Int)=if f x=true then L n ((i+1:Nat):Int) else some false)
  (hE:∀ n,L (n+1) (a.length:Int)=some true) (hF:a.length<F):L F 0=some (a.all f):=by
 rw [e7 (fun _ x=>if f x=true then .none else some false) true hb (fun n i x hx hi=>?_) hE hF,tS]
 rw [hS n i x hx hi]
 cases f x <;> rfl
theorem Cl {α:Type} [DecidableEq α]:∀ (l m p:List α),l.length=m.length→scan (fun i x=>if (p++m)[i]?=some x then .none else some false) true p.length l=decide (l=m)
 | [],[],p,_=>rfl
 | x :: l,y :: m,p,h=>by
  unfold scan
  have e:(p++y :: m)[p.length]?=some y:=by simp
  rw [e]
  by_cases lI:x=y
  ·subst lI
   simp only [if_true,List.cons.injEq,true_and]
   have:=Cl l m (p++[x]) (by simpa using h)
   simpa using this
  ·have:¬ (some y=some x):=fun hh=>lI (Option.some.inj hh).symm
   simp [this,lI]
theorem tT {α:Type} [DecidableEq α]:∀ (l m p:List α) (e:Bool),l.length=m.length→scan (fun i x=>if (p++m)[i]?=some x then .none else some false) e p.length l=(decide (l=m) && e)
 | [],[],p,e,_=>by simp [scan]
 | x :: l,y :: m,p,e,h=>by
  unfold scan
  have e1:(p++y :: m)[p.length]?=some y:=by simp
  rw [e1]
  by_cases lI:x=y
  ·subst lI
   simp only [if_true,List.cons.injEq,true_and]
   have:=tT l m (p++[x]) e (by simpa using h)
   simpa using this
  ·have:¬ (some y=some x):=fun hh=>lI (Option.some.inj hh).symm
   simp [this,lI]
theorem z6 {α:Type} [DecidableEq α] {a b:List α} {L:Nat→Int→Option Bool} {F:Nat} (hl:a.length=b.length) (hb:a.length<1000000)
  (hS:∀ n (i:Nat) x y,a[i]?=some x→b[i]?=some y→i<1000000→L (n+1) (i:Int)=if x=y then L n ((i+1:Nat):Int) else some false)
  (hE:∀ n,L (n+1) (a.length:Int)=some true) (hF:a.length<F):L F 0=some (decide (a=b)):=by
 rw [e7 (fun i x=>if b[i]?=some x then .none else some false) true hb (fun n i x hx hi=>?_) hE hF]
 ·exact congrArg some (Cl a b [] hl)
 ·have gn:i<b.length:=by rw [← hl]; exact (List.getElem?_eq_some_iff.1 hx).1
  rw [hS n i x b[i] hx (by simp [gn]) hi]
  by_cases h:x=b[i]
  ·simp [h,gn]
  ·have:¬ (b[i]?=some x):=fun hh=>by rw [List.getElem?_eq_getElem gn] at hh; exact h (Option.some.inj hh).symm
   simp [h,this]
theorem jM {α:Type} {a:List α} {i:Nat} {x:α} (h:a[i]?=some x):decide ((i:Int)<(a.length:Int))=true:=by
 have:=(List.getElem?_eq_some_iff.1 h).1; simp; omega
theorem jv (n:Nat):decide ((n:Int)<(n:Int))=false:=by simp
theorem jy {α:Type} {a:List α} {i:Nat} {x:α} (h:a[i]?=some x):idx a (i:Int)=some x:=by rw [np,h]
theorem jB {i:Nat} (h:i<1000000):i64 ((i:Int)+1)=((i+1:Nat):Int):=by rw [cO (by omega) (by omega)]; rfl
theorem EH {α β R:Type} {a:List α} {L:Nat→Int→List β→Option R} (f:α→β) (e:List β→R) {z:β} {F:Nat}
  (hS:∀ n (i:Nat) x (l l':List β),a[i]?=some x→l.length=i→L (n+1) (i:Int) (l++z :: l')=L n ((i+1:Nat):Int) (l++f x :: l'))
  (hE:∀ n l,L (n+1) (a.length:Int) l=some (e l)) (hF:a.length<F):L F 0 (List.replicate a.length z)=some (e (a.map f)):=by
 have key:∀ (s p:List α) (n:Nat),a=p++s→s.length<n→L n (p.length:Int) (p.map f++List.replicate s.length z)=some (e (a.map f)):=by
  intro s
  induction s with
  | nil=>intro p n hp hn; cases n with
   | zero=>omega
   | succ n =>
    have:a=p:=by simpa using hp
    subst this
    rw [hE n]; simp
  | cons x s ih=>intro p n hp hn; cases n with
   | zero=>omega
   | succ n =>
    have hx:a[p.length]?=some x:=by rw [hp]; simp
    rw [List.length_cons,List.replicate_succ,hS n p.length x (p.map f) (List.replicate s.length z) hx (by simp)]
    have e1:p.map f++f x :: List.replicate s.length z=(p++[x]).map f++List.replicate s.length z:=by simp
    have e2:p.length+1=(p++[x]).length:=by simp
    rw [e1,e2]
    exact ih (p++[x]) n (by rw [hp]; simp) (by simpa using hn)
 exact key a [] F rfl hF
theorem qj {α:Type} {f:Nat→α→Bool} {e:Bool}:∀ (l:List α) (i:Nat),(scan (fun i x=>if f i x=true then .none else some false) e i l=true ↔ e=true∧∀ (j:Nat) x,l[j]?=some x→f (i+j) x=true)
 | [],i=>by simp [scan]
 | x :: l,i=>by
  unfold scan
  cases hf:f i x with
  | false =>
   simp only [Bool.false_eq_true,if_false]
   constructor
   ·intro h; cases h
   ·rintro ⟨_,h⟩; have:=h 0 x rfl; rw [Nat.add_zero,hf] at this; cases this
  | true =>
   simp only [if_true]
   rw [qj l (i+1)]
   constructor
   ·rintro ⟨h1,h2⟩
    refine ⟨h1,fun j y hy=>?_⟩
    cases j with
    | zero=>simp at hy; subst hy; exact hf
    | succ j=>have:=h2 j y (by simpa using hy); rw [← this]; congr 1; omega
   ·rintro ⟨h1,h2⟩
    refine ⟨h1,fun j y hy=>?_⟩
    have:=h2 (j+1) y (by simpa using hy)
    rw [← this]; congr 1; omega
def vr {α R:Type} (g:Nat→α→Option R) (e:Option R):Nat→List α→Option R
 | _,[]=>e
 | i,x :: l=>match g i x with | some r=>some r | .none=>vr g e (i+1) l
theorem j3 {α R:Type} {a:List α} {L:Nat→Int→Option R} (g:Nat→α→Option R) (e:Option R) {F:Nat} (hb:a.length<1000000)
  (hS:∀ n (i:Nat) x,a[i]?=some x→i<1000000→L (n+1) (i:Int)=match g i x with | some r=>some r | .none=>L n ((i+1:Nat):Int))
  (hE:∀ n,L (n+1) (a.length:Int)=e) (hF:a.length<F):L F 0=vr g e 0 a:=by
 have key:∀ (l p:List α) (n:Nat),a=p++l→l.length<n→L n (p.length:Int)=vr g e p.length l:=by
  intro l
  induction l with
  | nil=>intro p n hp hn; cases n with
   | zero=>omega
   | succ n =>
    have:a=p:=by simpa using hp
    subst this
    rw [hE n]; rfl
  | cons x l ih=>intro p n hp hn; cases n with
   | zero=>omega
   | succ n =>
    have hx:a[p.length]?=some x:=by rw [hp]; simp
    have hl:p.length<1000000:=by rw [hp] at hb; simp at hb; omega
    rw [hS n p.length x hx hl]
    unfold vr
    cases hg:g p.length x with
    | some r=>rfl
    | none =>
     simp only
     have e1:p.length+1=(p++[x]).length:=by simp
     rw [e1]
     exact ih (p++[x]) n (by rw [hp]; simp) (by simpa using hn)
 exact key a [] F rfl hF
def allI {α:Type} (f:Nat→α→Bool) (i:Nat) (l:List α):Bool:=scan (fun i x=>if f i x=true then .none else some false) true i l
theorem kl {α R:Type} (f:Nat→α→Bool) (c:R) (e:Option R):∀ (l:List α) (i:Nat),vr (fun i x=>if f i x=true then .none else some c) e i l=if allI f i l=true then e else some c
 | [],i=>rfl
 | x :: l,i=>by
  unfold vr allI scan
  cases hf:f i x with
  | true=>simp only [if_true]; exact kl f c e l (i+1)
  | false=>simp
theorem pd {α:Type} (f:α→Bool) (l:List α) (i:Nat):allI (fun _ x=>f x) i l=l.all f:=tS f l i
theorem yY {α:Type} (f:Nat→α→Bool) (e:Bool):∀ (l:List α) (i:Nat),scan (fun i x=>if f i x=true then .none else some false) e i l=(allI f i l && e)
 | [],i=>by simp [scan,allI]
 | x :: l,i=>by
  unfold allI scan
  cases hf:f i x with
  | true=>simp only [if_true]; exact yY f e l (i+1)
  | false=>simp
theorem IS {a b:Bool} (h:a=true ↔ b=true):a=b:=by cases a <;> cases b <;> simp_all
end Go.Sh
namespace Go.Sh
open Go.L
def Cu (F:Nat) (x:ai):Prop:=(x.aG.length<1000000∧x.aG.length<F)∧(x.aE.length<1000000∧x.aE.length<F)
def qw (F:Nat) (l:List ax):Prop:=∀ e ∈ l,Cu F e.Item
theorem BG {F:Nat} {a b:List Int} (hb:a.length<1000000) (hF:a.length<F):AV F a b=some (decide (a=b)):=by
 unfold AV
 by_cases h:a.length=b.length
 ·have h1:((a.length:Int) != (b.length:Int))=false:=by simp [h]
  simp only [h1,Bool.false_eq_true,if_false]
  refine z6 h hb (fun n i x y hx hy hi=>?_) (fun n=>?_) hF
  ·simp only [yh,Dj,jM hx,if_true,jy hx,jy hy,Option.bind_some,jB hi]
   by_cases lI:x=y <;> simp [lI]
  ·simp only [yh,Dj,jv,Bool.false_eq_true,if_false]
 ·have h1:((a.length:Int) != (b.length:Int))=true:=by simp; omega
  have h2:a ≠ b:=fun o4=>h (by rw [o4])
  simp [h1,h2]
theorem EE {F:Nat} {a b:List aq} (hb:a.length<1000000) (hF:a.length<F):Gm F a b=some (decide (a=b)):=by
 unfold Gm
 by_cases h:a.length=b.length
 ·have h1:((a.length:Int) != (b.length:Int))=false:=by simp [h]
  simp only [h1,Bool.false_eq_true,if_false]
  refine z6 h hb (fun n i x y hx hy hi=>?_) (fun n=>?_) hF
  ·simp only [Di,Gi,jM hx,if_true,jy hx,jy hy,Option.bind_some,jB hi]
   by_cases lI:x=y <;> simp [lI]
  ·simp only [Di,Gi,jv,Bool.false_eq_true,if_false]
 ·have h1:((a.length:Int) != (b.length:Int))=true:=by simp; omega
  have h2:a ≠ b:=fun o4=>h (by rw [o4])
  simp [h1,h2]
theorem H6 {F:Nat} {a b:List Int}:vo F a b=AV F a b:=by
 have h:∀ n,ve a b n=yh a b n:=fun n=>by
  induction n with
  | zero=>rfl
  | succ n ih=>show B8 a b (ve a b n)=Dj a b (yh a b n); rw [ih]; rfl
 unfold vo AV; rw [h]
theorem Lx {F:Nat} {a b:List Int} (hb:a.length<1000000) (hF:a.length<F):vo F a b=some (decide (a=b)):=by rw [H6]; exact BG hb hF
theorem AJ {F:Nat} {a b:ai} (hl:a.aG.length=b.aG.length) (hb:a.aG.length<1000000) (hF:a.aG.length<F):∃ r,Cc F a b=some r∧(r=[] ↔ a.aG=b.aG):=by
 have key : ∀ (j n i : Nat) (r : List Int), i + j = a.aG.length → j < n → r.length ≤ i → ∃ q, A4 a b n (i : Int) r = some q ∧ (q = [] ↔ r = [] ∧ a.aG.drop i = b.aG.drop i) := by
  intro j
  induction j with
  | zero=>intro n i r hi hn hr; cases n with
   | zero=>omega
   | succ n =>
    have hm:max (a.aG.length:Int) (b.aG.length:Int)=(i:Int):=by rw [← hl]; omega
    simp only [A4,GC,hm,jv,Bool.false_eq_true,if_false]
    refine ⟨r,rfl,?_⟩
    rw [List.drop_of_length_le (by omega),List.drop_of_length_le (by omega)]
    simp
  | succ j ih=>intro n i r hi hn hr; cases n with
   | zero=>omega
   | succ n =>
    have hm:decide ((i:Int)<max (a.aG.length:Int) (b.aG.length:Int))=true:=by simp; omega
    have h1:decide ((i:Int) ≥ (a.aG.length:Int))=false:=by simp; omega
    have h2:decide ((i:Int) ≥ (b.aG.length:Int))=false:=by simp; omega
    have i1:i<a.aG.length:=by omega
    have i2:i<b.aG.length:=by omega
    simp only [A4,GC,hm,h1,h2,if_true,Bool.false_eq_true,if_false,dj i1,dj i2,Option.bind_some,jB (show i<1000000 by omega)]
    rw [List.drop_eq_getElem_cons i1,List.drop_eq_getElem_cons i2]
    by_cases lI:a.aG[i]=b.aG[i]
    ·obtain ⟨q,q1,q2⟩:=ih n (i+1) r (by omega) (by omega) (by omega)
     refine ⟨q,?_,?_⟩
     ·simp only [lI,decide_true,Bool.not_true,Bool.false_eq_true,if_false]; exact q1
     ·rw [q2,lI]; simp only [List.cons.injEq,true_and]
    ·obtain ⟨q,q1,q2⟩:=ih n (i+1) (r++[(i:Int)]) (by omega) (by omega) (by simp; omega)
     refine ⟨q,?_,?_⟩
     ·simp only [lI,decide_false,Bool.not_false,if_true]
      rw [c6 (by simp; omega),Option.bind_some]; exact q1
     ·rw [q2]; simp only [List.cons.injEq,lI,false_and,and_false,List.append_eq_nil_iff,reduceCtorEq]
 obtain ⟨q,q1,q2⟩:=key a.aG.length F 0 [] (by omega) hF (by simp)
 exact ⟨q,q1,by rw [q2]; simp⟩
theorem tR {F:Nat} {a b:ai} (h:Cu F a):yx F a b=some (decide (a=b)):=by
 unfold yx
 rw [EE h.1.1 h.1.2,BG h.2.1 h.2.2]
 obtain ⟨i,v,s,p,e⟩:=a
 obtain ⟨i',v',s',p',e'⟩:=b
 simp only [ai.mk.injEq,decide_eq_true_eq,beq_iff_eq,Option.bind_some]
 by_cases h1:i=i'
 ·by_cases h2:v=v'
  ·by_cases h3:s=s'
   ·by_cases h4:p=p'
    ·simp [h1,h2,h3,h4]
    ·simp [h4]
   ·simp [h3]
  ·simp [h2]
 ·simp [h1]
theorem kK {F:Nat} {a b:ai} (h:Cu F a):qM F a b=some (decide (a=b)):=by
 unfold qM
 rw [Lx h.2.1 h.2.2]
 by_cases hl:a.aG.length=b.aG.length
 ·obtain ⟨r,r1,r2⟩:=AJ hl h.1.1 h.1.2
  have iL:((a.aG.length:Int) == (b.aG.length:Int))=true:=by simp [hl]
  have hr:((r.length:Int) == 0)=decide (a.aG=b.aG):=by
   rw [Bool.eq_iff_iff,beq_iff_eq,decide_eq_true_eq,← r2]
   constructor
   ·intro h; exact List.eq_nil_of_length_eq_zero (by omega)
   ·intro h; rw [h]; rfl
  rw [r1]
  simp only [iL,if_true,Option.bind_some,hr]
  obtain ⟨i,v,s,p,e⟩:=a
  obtain ⟨i',v',s',p',e'⟩:=b
  simp only [ai.mk.injEq,decide_eq_true_eq,beq_iff_eq,Option.bind_some]
  by_cases h1:i=i'
  ·by_cases h2:v=v'
   ·by_cases h3:s=s'
    ·by_cases h4:p=p'
     ·simp [h1,h2,h3,h4]
     ·simp [h4]
    ·simp [h3]
   ·simp [h2]
  ·simp [h1]
 ·have iL:((a.aG.length:Int) == (b.aG.length:Int))=false:=by simp; omega
  have ew:a ≠ b:=fun o4=>hl (by rw [o4])
  simp only [iL,Bool.false_eq_true,if_false,ew,decide_false]
  repeat' split
  all_goals rfl
theorem GW {F:Nat} {a b:ax} (h:Cu F a.Item):iG F a b=some (decide (a=b)):=by
 unfold iG
 rw [tR h]
 obtain ⟨s,k,g,r,f⟩:=a
 obtain ⟨s',k',g',r',f'⟩:=b
 simp only [ax.mk.injEq,decide_eq_true_eq,beq_iff_eq,Option.bind_some]
 by_cases h1:s=s'
 ·by_cases h2:k=k'
  ·by_cases h3:r=r'
   ·by_cases h4:f=f'
    ·simp [h1,h2,h3,h4]
    ·simp [h4]
   ·simp [h3]
  ·simp [h2]
 ·simp [h1]
theorem It {F:Nat} {a b:ax} (h:Cu F a.Item):yO F a b=some (decide (a=b)):=by
 rw [← GW h]; unfold yO iG; rw [kK h,tR h]
theorem jf {F:Nat} {x:ai} (h:Cu F x):wu x=some x:=by
 unfold wu
 rw [c6 (by simp; have:=h.1.1; omega),Option.bind_some,c6 (by simp; have:=h.2.1; omega)]
 rfl
theorem uY {α β:Type} [DecidableEq α] (k k':α) (v:β):∀ m:List (α × β),gR (ed m k v) k'=if k'=k then some v else gR m k'
  | [] => by simp only [ed, gR]; by_cases h : k = k'
             · simp [h]
             · simp [h,Ne.symm h]
  | (a,b) :: r=>by
    simp only [ed]
    by_cases h:a=k
    · subst h
      simp only [if_true,gR]
      by_cases h2:a=k'
      · simp [h2]
      · simp [h2,Ne.symm h2]
    · simp only [h,if_false,gR,uY k k' v r]
      by_cases h2:a=k'
      · subst h2; simp [h]
      · simp [h2]
theorem FT {i:Nat} (h:i<1000000000):i64 ((i:Int)+1)=((i+1:Nat):Int):=by rw [cO (by omega) (by omega)]; rfl
theorem nm {α:Type} {p:List α} {x:α} {s:List α} {n:Nat} (h:p.length=n):idx (p++x :: s) (n:Int)=some x:=by rw [← h]; exact jz p x s
theorem pR {α:Type} {p:List α} {x y:α} {s:List α} {n:Nat} (h:p.length=n):(p++x :: s).set (n:Int).toNat y=p++y :: s:=by
 simp [← h]
theorem split_loop {F0:List ax} {p1:ax→Option aL} {p2:ax→ax→Option Bool} (hb:F0.length<1000000) (h1:∀ a ∈ F0,p1 a=some a.ar) (h2:∀ a ∈ F0,∀ b ∈ F0,p2 a b=some (decide (a=b))) (z:aL) :
  ∀ (s p:List ax) (n:Nat) (m:List (aL × Int)),F0=p++s→s.length<n→(∀ x,gR m x=(p.findIdx? fun y=>decide (y.ar=x)).map Int.ofNat) →
   AU F0 p1 p2 n (p.length:Int) (p.map (·.ar)++List.replicate s.length z) (p.map (fun x=>if F0.find? (fun y=>decide (y.ar=x.ar))=some x then 0 else 1)++List.replicate s.length 0) m
    = some (F0.map (·.ar),sr (·.ar) F0):=by
 intro s
 induction s with
 | nil =>
  intro p n m hp hn hm
  cases n with
  | zero=>omega
  | succ n =>
   have:F0=p:=by simpa using hp
   subst this
   simp only [AU,Gf,Int.lt_irrefl,decide_false,Bool.false_eq_true,if_false,List.length_nil,List.replicate_zero,List.append_nil,sr]
 | cons x s ih =>
  intro p n m hp hn hm
  cases n with
  | zero=>omega
  | succ n =>
   have hx:x ∈ F0:=by rw [hp]; simp
   have hlen:p.length<1000000:=by rw [hp] at hb; simp at hb; omega
   have d1:decide ((p.length:Int)<(F0.length:Int))=true:=by rw [hp]; exact HC p x s
   have i1:idx F0 (p.length:Int)=some x:=by rw [hp]; exact jz p x s
   simp only [AU,Gf,d1,if_true,i1,Option.bind_some,h1 x hx,List.length_cons,List.replicate_succ]
   rw [nm (by simp),pR (by simp),nm (by simp)]
   simp only [Option.bind_some,FT (show p.length<1000000000 by omega),hm]
   have E4:((p.length+1:Nat):Int)=((p++[x]).length:Int):=by simp
   have kA:p.map (·.ar)++x.ar :: List.replicate s.length z=(p++[x]).map (·.ar)++List.replicate s.length z:=by simp
   have hF:F0=(p++[x])++s:=by rw [hp]; simp
   have R2:∀ q:ax→Bool,F0.find? q=((p.find? q).or (if q x then some x else s.find? q)):=fun q=>by
    rw [hp,List.find?_append,List.find?_cons]
    cases q x <;> simp
   cases hj:p.findIdx? (fun y=>decide (y.ar=x.ar)) with
   | none =>
    simp only [Option.map_none,Option.isSome_none,Bool.not_false,if_true]
    have VZ:p.find? (fun y=>decide (y.ar=x.ar))=.none:=by
     rw [List.findIdx?_eq_none_iff] at hj
     rw [List.find?_eq_none]; intro y hy; simpa using hj y hy
    have hc:F0.find? (fun y=>decide (y.ar=x.ar))=some x:=by rw [R2,VZ]; simp
    have lA:p.map (fun x=>if F0.find? (fun y=>decide (y.ar=x.ar))=some x then (0:Int) else 1)++0 :: List.replicate s.length 0=(p++[x]).map (fun x=>if F0.find? (fun y=>decide (y.ar=x.ar))=some x then (0:Int) else 1)++List.replicate s.length 0:=by
     simp [hc]
    rw [lA,kA,E4]
    refine ih (p++[x]) n _ hF (by simpa using hn) fun y=>?_
    rw [uY,hm,List.findIdx?_append]
    by_cases Hr:y=x.ar
    ·subst Hr; simp [hj,List.findIdx?_cons]
    ·rw [if_neg Hr]
     cases p.findIdx? (fun z=>decide (z.ar=y)) with
     | none=>simp [List.findIdx?_cons,Ne.symm Hr]
     | some j=>simp
   | some j =>
    rw [List.findIdx?_eq_some_iff_getElem] at hj
    obtain ⟨iC,Mt,EZ⟩:=hj
    simp only [decide_eq_true_eq] at Mt
    have VX:p.find? (fun y=>decide (y.ar=x.ar))=some p[j]:=by
     rw [List.find?_eq_some_iff_getElem]
     exact ⟨by simpa using Mt,j,iC,rfl,fun k hk=>by simpa using EZ k hk⟩
    have Vy:idx F0 (j:Int)=some p[j]:=by
     rw [np,hp,List.getElem?_append_left iC]; simp [iC]
    have VY:p[j] ∈ F0:=by rw [hp]; simp
    have hc:F0.find? (fun y=>decide (y.ar=x.ar))=some p[j]:=by rw [R2,VX]; simp
    simp only [Option.map_some,Option.isSome_some,Bool.not_true,Bool.false_eq_true,if_false,Option.getD_some]
    have iM:∀ y,gR m y=((p++[x]).findIdx? fun z=>decide (z.ar=y)).map Int.ofNat:=fun y=>by
     rw [hm,List.findIdx?_append]
     cases hq:p.findIdx? (fun z=>decide (z.ar=y)) with
     | some j=>simp
     | none =>
      have:¬ x.ar=y:=fun lI=>by
       subst lI
       rw [List.findIdx?_eq_none_iff] at hq
       have:=hq p[j] (by simp)
       simp [Mt] at this
      simp [List.findIdx?_cons,this]
    show (idx F0 ((j:Nat):Int)).bind _=_
    rw [Vy]
    simp only [Option.bind_some,h2 _ VY _ hx]
    by_cases he:p[j]=x
    ·have lA:p.map (fun x=>if F0.find? (fun y=>decide (y.ar=x.ar))=some x then (0:Int) else 1)++0 :: List.replicate s.length 0=(p++[x]).map (fun x=>if F0.find? (fun y=>decide (y.ar=x.ar))=some x then (0:Int) else 1)++List.replicate s.length 0:=by
      simp [hc,he]
     simp only [he,decide_true,Bool.not_true,Bool.false_eq_true,if_false]
     rw [lA,kA,E4]
     exact ih (p++[x]) n _ hF (by simpa using hn) iM
    ·have lA:p.map (fun x=>if F0.find? (fun y=>decide (y.ar=x.ar))=some x then (0:Int) else 1)++1 :: List.replicate s.length 0=(p++[x]).map (fun x=>if F0.find? (fun y=>decide (y.ar=x.ar))=some x then (0:Int) else 1)++List.replicate s.length 0:=by
      simp [hc,he]
     simp only [he,decide_false,Bool.not_false,if_true]
     rw [nm (by simp),pR (by simp)]
     simp only [Option.bind_some]
     rw [lA,kA,E4]
     exact ih (p++[x]) n _ hF (by simpa using hn) iM
theorem Ix {F:Nat} {l:List ax} {p1:ax→Option aL} {p2:ax→ax→Option Bool} (hb:l.length<1000000) (hF:l.length<F) (h1:∀ a ∈ l,p1 a=some a.ar) (h2:∀ a ∈ l,∀ b ∈ l,p2 a b=some (decide (a=b))) :
  Gk F l p1 p2=some (l.map (·.ar),sr (·.ar) l):=by
 unfold Gk
 rw [tb (by omega),Option.bind_some,tb (by omega),Option.bind_some]
 exact split_loop hb h1 h2 _ l [] F [] rfl hF fun x=>by simp [gR]
theorem pj {F:Nat} (MW:10≤F) {l:List ax} {p1:ax→Option aL} {p2:ax→ax→Option Bool} (hb:l.length<1000000) (hF:l.length<F) (h1:∀ a ∈ l,p1 a=some a.ar) (h2:∀ a ∈ l,∀ b ∈ l,p2 a b=some (decide (a=b))) :
  Gj F l p1 p2=some (oi (l.map (·.ar)) (sr (·.ar) l)):=by
 unfold Gj
 rw [Ix hb hF h1 h2]
 simp only [Option.bind_some]
 rw [xi MW (by simpa using hb) (by simpa using hF)]
 rfl
theorem CF {l:List ax} {a:List Int} {c:Int} {F:Nat} (hc:qw F l) (ha:∀ i ∈ a,0≤i∧i.toNat<l.length) (hb:a.length<1000000) (z:ax):∀ (s p:List Int) (n:Nat),a=p++s→s.length<n →
  A2 l (a,c) n (p.length:Int) (hJ l p++List.replicate s.length z)=some (hJ l a,0):=by
 intro s
 induction s with
 | nil =>
  intro p n hp hn
  cases n with
  | zero=>omega
  | succ n =>
   have:a=p:=by simpa using hp
   subst this
   simp only [A2,GA,Int.lt_irrefl,decide_false,Bool.false_eq_true,if_false,List.length_nil,List.replicate_zero,List.append_nil]
 | cons x s ih =>
  intro p n hp hn
  cases n with
  | zero=>omega
  | succ n =>
   have hx:=ha x (by rw [hp]; simp)
   have wV:(hJ l p).length=p.length:=nB fun i hi=>(ha i (by rw [hp]; simp [hi])).2
   have hlen:p.length<1000000:=by rw [hp] at hb; simp at hb; omega
   have d1:decide ((p.length:Int)<(a.length:Int))=true:=by rw [hp]; exact HC p x s
   have i1:idx a (p.length:Int)=some x:=by rw [hp]; exact jz p x s
   have i2:idx l x=some l[x.toNat]:=by rw [gF]; exact ⟨hx.1,by simp [hx.2]⟩
   simp only [A2,GA,d1,if_true,i1,i2,Option.bind_some,List.length_cons,List.replicate_succ]
   have lA:=hc l[x.toNat] (List.getElem_mem hx.2)
   rw [nm wV,Option.bind_some,jf lA,Option.bind_some,pR wV,nm wV,Option.bind_some,pR wV]
   simp only [FT (show p.length<1000000000 by omega)]
   have e1:hJ l p++l[x.toNat] :: List.replicate s.length z=hJ l (p++[x])++List.replicate s.length z:=by simp [hJ,hx.2]
   have e2:((p.length+1:Nat):Int)=((p++[x]).length:Int):=by simp
   rw [e1,e2]
   exact ih (p++[x]) n (by simp [hp]) (by simpa using hn)
theorem vG {F:Nat} (MW:10≤F) {l:List ax} (hc:qw F l) (hb:l.length<1000000) (hF:l.length<F):yp F l=some (gK (·.ar) l):=by
 unfold yp
 rw [pj (p1:=fun a0=>B6 a0) (p2:=fun a0 a1=>iG F a0 a1) MW hb hF (fun a _=>rfl) (fun a ha b _=>GW (hc a ha))]
 rw [uJ (Bz _ _)]
 simp only [Option.bind_some,gK]
 by_cases h:300<(Hk (·.ar) l).length
 ·simp [h]
 ·have hlen:=oh (l.map (·.ar)) (sr (·.ar) l)
  rw [List.length_map] at hlen
  simp only [h,if_false,bne_self_eq_false,Bool.false_eq_true]
  rw [tb (by omega)]
  simp only [Option.bind_some]
  rw [← EG (Bz (·.ar) l)]
  refine CF hc (fun i hi=>?_) (by omega) _ _ [] F rfl (Nat.lt_of_le_of_lt hlen hF)
  have:=p7 hi
  exact ⟨this.1,by simpa using this.2⟩
theorem Cy {F:Nat} {l:List ax} (hc:qw F l) {i:Nat} (hi:i<l.length) (hb:l.length<1000000) (aJ:Int→List aL→List Int→Option (List ax × Int)) (l2:List aL) (l3:List Int) (h2:l2.length<1000000) (h3:l3.length<1000000) :
  ∀ (k n:Nat),k≤i→k<n→A0 aJ F l i l2 l3 n ((k:Int)+((l.drop k).findIdx fun y=>decide (y=l[i]):Nat)) ((k:Int) - 1)=aJ ((i+1:Nat):Int) (l2++[l[i].ar]) (l3++[((l.findIdx fun y=>decide (y=l[i]):Nat):Int)]):=by
 intro k
 induction k with
 | zero =>
  intro n hk hn
  cases n with
  | zero=>omega
  | succ n =>
   have d:decide (((0:Nat):Int) - 1 ≥ 0)=false:=by simp
   simp only [A0,Gx,d,Bool.false_eq_true,if_false,dj hi,Option.bind_some]
   rw [c6 (by simp; omega),Option.bind_some,c6 (by simp; omega),Option.bind_some,FT (by omega)]
   simp
 | succ k ih =>
  intro n hk hn
  cases n with
  | zero=>omega
  | succ n =>
   have d:decide (((k+1:Nat):Int) - 1 ≥ 0)=true:=by simp
   have e:((k+1:Nat):Int) - 1=(k:Int):=by omega
   have Ho:k<l.length:=by omega
   simp only [A0,Gx,d,if_true]
   rw [e]
   simp only [dj hi,dj Ho,Option.bind_some]
   rw [It (hc l[i] (List.getElem_mem hi))]
   simp only [Option.bind_some]
   rw [cO (by omega) (by omega)]
   have hd:l.drop k=l[k] :: l.drop (k+1):=(List.drop_eq_getElem_cons Ho)
   have:=ih n (by omega) (by omega)
   rw [hd,List.findIdx_cons] at this
   by_cases h:l[i]=l[k]
   ·simp only [h,decide_true,if_true]
    simp only [h,decide_true,cond_true,Int.ofNat_zero,Int.add_zero] at this
    exact this
   ·simp only [h,decide_false,Bool.false_eq_true,if_false]
    simp only [Ne.symm h,decide_false,cond_false] at this
    rw [← this]
    congr 1
    omega
theorem De {l:List ax} {a:List Int} {c:Int} (ha:∀ i ∈ a,0≤i∧i.toNat<l.length) (hb:a.length<1000000):∀ (s p:List Int) (n:Nat),a=p++s→s.length<n →
  A1 l (a,c) n (p.length:Int) (hJ l p)=some (hJ l a,0):=by
 intro s
 induction s with
 | nil =>
  intro p n hp hn
  cases n with
  | zero=>omega
  | succ n =>
   have:a=p:=by simpa using hp
   subst this
   simp only [A1,Gy,Int.lt_irrefl,decide_false,Bool.false_eq_true,if_false]
 | cons x s ih =>
  intro p n hp hn
  cases n with
  | zero=>omega
  | succ n =>
   have hx:=ha x (by rw [hp]; simp)
   have wV:(hJ l p).length=p.length:=nB fun i hi=>(ha i (by rw [hp]; simp [hi])).2
   have hlen:p.length<1000000:=by rw [hp] at hb; simp at hb; omega
   have d1:decide ((p.length:Int)<(a.length:Int))=true:=by rw [hp]; exact HC p x s
   have i1:idx a (p.length:Int)=some x:=by rw [hp]; exact jz p x s
   have i2:idx l x=some l[x.toNat]:=by rw [gF]; exact ⟨hx.1,by simp [hx.2]⟩
   simp only [A1,Gy,d1,if_true,i1,i2,Option.bind_some]
   rw [c6 (by simp; omega)]
   simp only [Option.bind_some,FT (show p.length<1000000000 by omega)]
   have e1:hJ l p++[l[x.toNat]]=hJ l (p++[x]):=by simp [hJ,hx.2]
   have e2:((p.length+1:Nat):Int)=((p++[x]).length:Int):=by simp
   rw [e1,e2]
   exact ih (p++[x]) n (by simp [hp]) (by simpa using hn)
theorem rh {F:Nat} {l:List ax} (hc:qw F l) (hb:l.length<1000000) (hF:l.length<F):∀ (j n i:Nat),i+j=l.length→j<n →
  yP F l n (i:Int) ((l.take i).map (·.ar)) ((my l).take i)=some (gK (·.ar) l):=by
 intro j
 induction j with
 | zero =>
  intro n i rI hn
  cases n with
  | zero=>omega
  | succ n =>
   have hi:i=l.length:=by omega
   subst hi
   have hc:(my l).take l.length=my l:=List.take_of_length_le (by simp [my])
   simp only [yP,Gw,Int.lt_irrefl,decide_false,Bool.false_eq_true,if_false,List.take_length,hc]
   rw [tH (by simpa using hb) (by simpa using hF),uJ (vK _ _)]
   simp only [Option.bind_some,gK]
   by_cases h:300<(Hk (·.ar) l).length
   ·simp [h]
   ·have hlen:=oh (l.map (·.ar)) (my l)
    rw [List.length_map] at hlen
    simp only [h,if_false,bne_self_eq_false,Bool.false_eq_true]
    refine De (fun i hi=>?_) (by omega) _ [] F rfl (Nat.lt_of_le_of_lt hlen hF)
    have:=p7 hi
    exact ⟨this.1,by simpa using this.2⟩
 | succ j ih =>
  intro n i rI hn
  cases n with
  | zero=>omega
  | succ n =>
   have hi:i<l.length:=by omega
   have d1:decide ((i:Int)<(l.length:Int))=true:=by simp; omega
   simp only [yP,Gw,d1,if_true]
   have RU:=Cy hc hi hb (yP F l n) ((l.take i).map (·.ar)) ((my l).take i) (by simp; omega) (by simp [my]; omega) i F (by omega) (by omega)
   have h0:(l.drop i).findIdx (fun y=>decide (y=l[i]))=0:=by rw [List.drop_eq_getElem_cons hi,List.findIdx_cons]; simp
   rw [h0] at RU
   simp only [Int.ofNat_zero,Int.add_zero] at RU
   rw [cO (by omega) (by omega),RU]
   have e1:(l.take i).map (·.ar)++[l[i].ar]=(l.take (i+1)).map (·.ar):=by
    rw [List.take_add_one,List.map_append]; simp [hi,-List.map_take]
   have e2:(my l).take i++[((l.findIdx fun y=>decide (y=l[i]):Nat):Int)]=(my l).take (i+1):=by rw [List.take_add_one]; simp [my,hi]
   rw [e1,e2]
   exact ih n (i+1) (by omega) (by omega)
theorem vH {F:Nat} {l:List ax} (hc:qw F l) (hb:l.length<1000000) (hF:l.length<F):B9 F l=some (gK (·.ar) l) :=
 rh hc hb hF l.length F 0 (by omega) hF
end Go.Sh
namespace Go.Sh
open Go.L
theorem wG (a b:Bool):(if a=true then some true else some b)=some (a || b):=by cases a <;> rfl
theorem uj (a b:Int):(a == b)=decide (a=b):=by rw [Bool.eq_iff_iff]; simp
def Df (s:ByteArray):Bool:=s.data.toList.all fun b=>!(decide ((b.toNat:Int)<32) || decide ((b.toNat:Int) > 126))
theorem JS {s:ByteArray} {i:Nat} {b:UInt8} (h:s.data.toList[i]?=some b):y1 s (i:Int)=some (b.toNat:Int):=by
 unfold y1
 simp only [show (0:Int)≤(i:Int) by omega,if_true,Int.toNat_natCast,h,Option.map_some]
theorem xV {F:Nat} {s:ByteArray} (hb:s.size<1000000) (hF:s.size<F):yu F s=some (Df s):=by
 unfold yu Df
 have e5:(s.size:Int)=(s.data.toList.length:Int):=by
  show ((s.data.size:Nat):Int)=_
  rw [Array.length_toList]
 have hl:s.data.toList.length=s.size:=Array.length_toList
 refine Bu (L:=A3 s) (fun b:UInt8=>!(decide ((b.toNat:Int)<32) || decide ((b.toNat:Int) > 126))) (by omega) (fun n i x hx hi=>?_) (fun n=>?_) (by omega)
 ·simp only [A3,GB,e5,jM hx,if_true,JS hx,Option.bind_some,jB hi,wG]
  cases (decide ((x.toNat:Int)<32) || decide ((x.toNat:Int) > 126)) <;> simp
 ·simp only [A3,GB,e5,jv,Bool.false_eq_true,if_false]
def rv (p:aq):Bool:=!(decide (p.Max<1) || (decide (p.Max > 40) || (decide (p.e6<0) || (decide (p.e6 ≥ 16) || (decide (p.ct<0) || decide (p.ct ≥ 6)))))) &&
 (if p.Kind=1 then decide (p.Options=0) && decide (p.Key=0) else decide (p.Kind=2) && (decide (p.Options ≥ 2) && (decide (p.Options≤5) && (decide (p.Key ≥ 0) && decide (p.Key<p.Options)))))
theorem zq (p:aq):yt p=some (rv p):=by
 unfold yt rv
 cases (decide (p.Max<1) || (decide (p.Max > 40) || (decide (p.e6<0) || (decide (p.e6 ≥ 16) || (decide (p.ct<0) || decide (p.ct ≥ 6)))))) with
 | true=>simp
 | false =>
  by_cases h1:p.Kind=1
  ·simp only [h1,Bool.false_eq_true,if_false,if_true,beq_self_eq_true,Bool.not_false,Bool.true_and,uj]
  ·by_cases h2:p.Kind=2
   ·simp [h1,h2]
   ·simp [h1,h2]
def uI (id:Int) (l:List Int) (i:Nat) (x:Int):Bool:=!(decide (x ≥ 0) && decide (x≤9999)) || (decide (x=id) || (decide (0<i) && decide (l.getD (i - 1) 0 ≥ x)))
def ti (id:Int) (l:List Int):Bool:=scan (fun i x=>if uI id l i x=true then some false else .none) true 0 l
theorem Jz {l:List Int} {i:Nat} {x:Int} (hi:i<1000000) (hx:l[i]?=some x) (h0:0<i):idx l (i64 ((i:Int) - 1))=some (l.getD (i - 1) 0):=by
 have h1:=(List.getElem?_eq_some_iff.1 hx).1
 rw [cO (by omega) (by omega),show (i:Int) - 1=((i - 1:Nat):Int) by omega,np]
 simp [show i - 1<l.length by omega]
theorem CC {F:Nat} {id:Int} {l:List Int} (hb:l.length<1000000) (hF:l.length<F):GI F id l=some (ti id l):=by
 unfold GI ti
 refine e7 _ _ hb (fun n i x hx hi=>?_) (fun n=>?_) hF
 ·simp only [Dl,Gl,jM hx,if_true,jy hx,Option.bind_some,vd,jB hi]
  unfold uI
  by_cases h0:0<i
  ·have d:decide ((i:Int) > 0)=true:=by simp; exact h0
   simp only [d,if_true,Jz hi hx h0,Option.bind_some,wG,h0,decide_true,Bool.true_and,uj]
   cases (!(decide (x ≥ 0) && decide (x≤9999)) || (decide (x=id) || decide (l.getD (i - 1) 0 ≥ x))) <;> simp
  ·have d:decide ((i:Int) > 0)=false:=by simp; omega
   simp only [d,Bool.false_eq_true,if_false,Option.bind_some,wG,h0,decide_false,Bool.false_and,uj]
   cases (!(decide (x ≥ 0) && decide (x≤9999)) || (decide (x=id) || false)) <;> simp
 ·simp only [Dl,Gl,jv,Bool.false_eq_true,if_false]
def je (x:ai):Int :=
 if (!(decide (x.ID ≥ 0) && decide (x.ID≤9999)) || (decide (x.Version<1) || decide (x.Version > 8)))=true then 2
 else if (decide ((x.bI.size:Int) > 40) || (decide ((x.aG.length:Int) > 6) || decide ((x.aE.length:Int) > 8)))=true then 3
 else if (decide (x.bI=ByteArray.mk #[]) || !(Df x.bI))=true then 7
 else if x.aG=[] then 10
 else if x.aG.all rv=true then (if ti x.ID x.aE=true then 0 else 9) else 1
theorem vu {α R:Type} (f:α→Bool) (c e:R):∀ (l:List α) (i:Nat),scan (fun _ x=>if f x=true then .none else some c) e i l=if l.all f=true then e else c
 | [],i=>rfl
 | x :: l,i=>by
  unfold scan
  rw [List.all_cons]
  cases hf:f x with
  | true=>simp [vu f c e l]
  | false=>simp
theorem vI {F:Nat} {x:ai} (hF:50<F):tE F x=some (je x):=by
 unfold tE je vd
 simp only [Option.bind_some,wG]
 cases h1:(!(decide (x.ID ≥ 0) && decide (x.ID≤9999)) || (decide (x.Version<1) || decide (x.Version > 8))) with
 | true=>simp
 | false =>
  simp only [Bool.false_eq_true,if_false]
  cases h2:(decide ((x.bI.size:Int) > 40) || (decide ((x.aG.length:Int) > 6) || decide ((x.aE.length:Int) > 8))) with
  | true=>simp
  | false =>
   simp only [Bool.or_eq_false_iff,decide_eq_false_iff_not] at h2
   simp only [Bool.false_eq_true,if_false]
   rw [xV (by omega) (by omega)]
   simp only [Option.bind_some,wG]
   cases (decide (x.bI=ByteArray.mk #[]) || !(Df x.bI)) with
   | true=>simp
   | false =>
    simp only [Bool.false_eq_true,if_false]
    by_cases h3:x.aG=[]
    ·simp [h3]
    ·have h4:((x.aG.length:Int) == 0)=false:=by
      rw [beq_eq_false_iff_ne]; intro h; exact h3 (List.eq_nil_of_length_eq_zero (by omega))
     simp only [h3,h4,Bool.false_eq_true,if_false]
     rw [← vu rv (1:Int) (if ti x.ID x.aE=true then 0 else 9) x.aG 0]
     refine e7 _ _ (by omega) (fun n i y hy hi=>?_) (fun n=>?_) (by omega)
     ·simp only [va,yl,jM hy,if_true,jy hy,Option.bind_some,jB hi,zq]
      cases rv y <;> simp
     ·simp only [va,yl,jv,Bool.false_eq_true,if_false]
      rw [CC (by omega) (by omega)]
      cases ti x.ID x.aE <;> simp
theorem vJ {F:Nat} {x:ai} (hF:50<F) (h:je x=0):Cu F x∧0≤x.ID∧x.ID≤9999∧1≤x.Version∧x.Version≤8:=by
 unfold je at h
 by_cases h1:(!(decide (x.ID ≥ 0) && decide (x.ID≤9999)) || (decide (x.Version<1) || decide (x.Version > 8)))=true
 ·rw [if_pos h1] at h; simp at h
 ·rw [if_neg h1] at h
  by_cases h2:(decide ((x.bI.size:Int) > 40) || (decide ((x.aG.length:Int) > 6) || decide ((x.aE.length:Int) > 8)))=true
  ·rw [if_pos h2] at h; simp at h
  ·simp only [Bool.not_eq_true,Bool.or_eq_false_iff,decide_eq_false_iff_not,Bool.not_eq_false',Bool.and_eq_true,decide_eq_true_eq] at h1 h2
   refine ⟨⟨⟨?_,?_⟩,?_,?_⟩,?_,?_,?_,?_⟩ <;> omega
def jc (l:List al):Prop:=l.Pairwise fun a b=>a.ID<b.ID
def cv (l:List al) (n:Int):Option Nat:=l.findIdx? fun b=>b.ID == n
def jL (l:List al) (n:Int):Nat:=(l.takeWhile fun b=>decide (b.ID<n)).length
theorem ni (l:List al) (n:Int):jL l n≤l.length:=(List.takeWhile_sublist _).length_le
theorem sv {l:List al} (hs:jc l) (n:Int):∀ q (hq:q<l.length),q<jL l n ↔ l[q].ID<n:=by
 induction l with
 | nil=>intro q hq; simp at hq
 | cons x s ih =>
  have Fk:=List.pairwise_cons.1 hs
  intro q hq
  unfold jL
  by_cases hx:x.ID<n
  ·rw [List.takeWhile_cons_of_pos (by simpa using hx)]
   cases q with
   | zero=>simp [hx]
   | succ q=>have:=ih Fk.2 q (by simpa using hq); unfold jL at this; simpa using this
  ·rw [List.takeWhile_cons_of_neg (by simpa using hx)]
   cases q with
   | zero=>simp; omega
   | succ q =>
    have o5:q<s.length:=by simpa using hq
    have:=Fk.1 s[q] (List.getElem_mem _)
    simp; omega
theorem Pn {a b:Nat} (h:a+b<1000000000):i64 (oW .u64 (IntKind.u64.wrap (i64 ((a:Int)+b))) 1)=(((a+b) / 2:Nat):Int):=by
 rw [cO (n:=(a:Int)+b) (by omega) (by omega)]
 have h1:IntKind.u64.wrap ((a:Int)+b)=(a:Int)+b:=by
  unfold IntKind.wrap
  simp only [IntKind.bits,IntKind.signed]
  first | omega | (simp; omega)
 rw [h1]
 have h2:oW .u64 ((a:Int)+b) 1=((a:Int)+b) / 2:=by
  unfold oW
  simp only [IntKind.bits]
  rw [show (2:Int) ^ min (1:Int).toNat 64=2 from rfl]
  rw [Int.fdiv_eq_ediv_of_nonneg _ (by omega)]
 rw [h2,cO (by omega) (by omega)]
 omega
theorem vF {l:List al} {x:Int} {p2:al→Int→Option Int} {f:al→Int} {k:Nat} (hb:l.length<1000000) (hk:k≤l.length) (hf:∀ y ∈ l,p2 y x=some (f y)) (h:∀ q (hq:q<l.length),q<k ↔ f l[q]<0) :
  ∀ n (a b:Nat),a≤k→k≤b→b≤l.length→b - a<n→MD l x p2 n a b=some ((k:Int),match l[k]? with | some y=>f y == 0 | .none=>false):=by
 intro n
 induction n with
 | zero=>intro a b _ _ _ h; omega
 | succ n ih =>
  intro a b ha VL Uf hn
  simp only [MD,Re]
  by_cases o4:a<b
  ·have d:decide ((a:Int)<(b:Int))=true:=by simp; exact o4
   have hm:(a+b) / 2<l.length:=by omega
   simp only [d,if_true,Pn (show a+b<1000000000 by omega),dj hm,Option.bind_some,hf _ (List.getElem_mem hm)]
   by_cases dY:f l[(a+b) / 2]<0
   ·have:=(h _ hm).2 dY
    simp only [dY,decide_true,if_true,FT (show (a+b) / 2<1000000000 by omega)]
    exact ih _ _ (by omega) VL Uf (by omega)
   ·have:¬ (a+b) / 2<k:=fun hc=>dY ((h _ hm).1 hc)
    simp only [dY,decide_false,Bool.false_eq_true,if_false]
    exact ih _ _ ha (by omega) (by omega) (by omega)
  ·have d:decide ((a:Int)<(b:Int))=false:=by simp; omega
   have Vt:a=k:=by omega
   subst Vt
   simp only [d,Bool.false_eq_true,if_false]
   by_cases zx:a<l.length
   ·have d2:decide ((a:Int)<(l.length:Int))=true:=by simp; exact zx
    simp only [d2,if_true,dj zx,Option.bind_some,hf _ (List.getElem_mem zx),List.getElem?_eq_getElem zx]
   ·have d2:decide ((a:Int)<(l.length:Int))=false:=by simp; omega
    simp only [d2,Bool.false_eq_true,if_false,Option.bind_some,List.getElem?_eq_none (show l.length≤a by omega)]
theorem u5 {l:List al} (hs:jc l) (c:Int):cv l c=if (match l[jL l c]? with | some y=>k9 y.ID c == 0 | .none=>false)=true then some (jL l c) else .none:=by
 have h:=sv hs c
 have hk:=ni l c
 generalize jL l c=k at h hk
 by_cases Ho:k<l.length
 ·rw [List.getElem?_eq_getElem Ho]
  simp only [beq_iff_eq,jV]
  split
  ·rename_i hc
   unfold cv
   rw [List.findIdx?_eq_some_iff_getElem]
   refine ⟨Ho,by simpa using hc,fun j hj=>?_⟩
   have:=(h j (by omega)).1 hj
   simp; omega
  ·rename_i hc
   unfold cv
   rw [List.findIdx?_eq_none_iff]
   intro y hy
   obtain ⟨q,hq,rfl⟩:=List.getElem_of_mem hy
   have h2:=h q hq
   rcases Nat.lt_trichotomy q k with Sm | rfl | Sm
   ·have:=h2.1 Sm; simp; omega
   ·simpa using hc
   ·have h3:=List.pairwise_iff_getElem.1 hs k q Ho hq Sm
    have h4:=h k Ho
    simp; omega
 ·rw [List.getElem?_eq_none (by omega)]
  simp only [Bool.false_eq_true,if_false]
  unfold cv
  rw [List.findIdx?_eq_none_iff]
  intro y hy
  obtain ⟨q,hq,rfl⟩:=List.getElem_of_mem hy
  have:=(h q hq).1 (by omega)
  simp; omega
theorem tu {l:List al} (hs:jc l) {c:Int} {j:Nat} (h:cv l c=some j):j=jL l c:=by
 rw [u5 hs] at h
 by_cases hc:(match l[jL l c]? with | some y=>k9 y.ID c == 0 | .none=>false)=true
 ·rw [if_pos hc] at h; exact (Option.some.inj h).symm
 ·rw [if_neg hc] at h; cases h
theorem dE {l:List al} {c:Int} {j:Nat} (h:cv l c=some j):∃ hj:j<l.length,l[j].ID=c:=by
 unfold cv at h
 rw [List.findIdx?_eq_some_iff_getElem] at h
 exact ⟨h.1,by simpa using h.2.1⟩
theorem U7 {F:Nat} {l:List al} {c:Int} (hs:jc l) (hb:l.length<1000000) (Hl:l.length<F) :
  Qj F l c (fun a0 a1=>tA a0 a1)=some ((jL l c:Int),(cv l c).isSome):=by
 have h1:∀ y ∈ l,tA y c=some (k9 y.ID c):=fun y _=>by simp [tA,ng]
 have hl:=vF (l:=l) (x:=c) (p2:=fun a0 a1=>tA a0 a1) (f:=fun y=>k9 y.ID c) hb (ni l c) h1 (fun q hq=>by rw [sv hs c q hq,ph]) F 0 l.length (by omega) (ni l c) (by omega) (by omega)
 unfold Qj
 rw [show (0:Int)=((0:Nat):Int) from rfl,hl,u5 hs]
 congr 2
 cases hc:(match l[jL l c]? with | some y=>k9 y.ID c == 0 | .none=>false) <;> simp
end Go.Sh
namespace Go.Sh
open Go.L
structure sd (r:al):Prop where
 n1:1≤r.ab.length
 n8:r.ab.length≤8
 ap:r.ah.length=r.ab.length
 us:r.Uses.length≤300
 vs:∀ (i:Nat) x,r.ab[i]?=some x→je x=0∧x.ID=r.ID∧x.Version=(i:Int)+1
 uv:∀ u ∈ r.Uses,1≤u.Version∧u.Version≤r.ab.length
structure ic (l:List al):Prop where
 len:l.length≤40
 sort:jc l
 ok:∀ r ∈ l,sd r
def og (e:ax) (r:al):Prop:=e.Ref.Version<1 ∨ e.Ref.Version > r.ab.length
instance (e:ax) (r:al):Decidable (og e r):=by unfold og; infer_instance
def rf (e:ax) (r:al):Bool:=r.ah.getD (e.Ref.Version - 1).toNat false
def j8 (r:al) (e:ax):Int × al :=
 if e.Kind=2 then (if r.ae=true ∨ e.Item.Version ≠ (r.ab.length:Int)+1 then (8,r) else (0,⟨r.ID,r.ab++[e.Item],r.ah++[false],r.Uses,r.ae⟩))
 else if e.Kind=3 then (if og e r then (4,r) else if r.ae=true then (8,r) else if rf e r=true then (5,r) else (0,⟨r.ID,r.ab,r.ah.set (e.Ref.Version - 1).toNat true,r.Uses,r.ae⟩))
 else if e.Kind=4 then (if og e r then (4,r) else if r.ae=true ∨ rf e r=false then (8,r) else if r.Uses.any (fun u=>u.Form == e.Form)=true then (5,r) else if 300≤r.Uses.length then (3,r) else (0,⟨r.ID,r.ab,r.ah,r.Uses++[⟨e.Ref.Version,e.Form,e.ar.Time⟩],r.ae⟩))
 else (if r.ae=decide (e.Kind=5) then (8,r) else (0,⟨r.ID,r.ab,r.ah,r.Uses,decide (e.Kind=5)⟩))
def G4 (e:ax):Int:=if e.Kind=2 then e.Item.ID else e.Ref.ID
def Od (l:List al) (e:ax):List al:=l.take (jL l e.Item.ID)++[⟨e.Item.ID,[e.Item],[false],[],false⟩]++l.drop (jL l e.Item.ID)
def kR (l:List al) (e:ax):Int × List al :=
 if je e.Item ≠ 0 then (je e.Item,l) else if e.Item.Version ≠ 1 then (8,l) else if (cv l e.Item.ID).isSome=true then (5,l) else if 40≤l.length then (3,l) else (0,Od l e)
def lh (l:List al) (e:ax):Int × List al :=
 match cv l (G4 e) with
 | .none=>(4,l)
 | some k=>match l[k]? with
  | .none=>(4,l)
  | some r=>if (j8 r e).1=0 then (0,l.set k (j8 r e).2) else ((j8 r e).1,l)
def cY (l:List al) (e:ax):Int × List al :=
 if e.Kind=1 then kR l e
 else if e.Kind=2 then (if je e.Item ≠ 0 then (je e.Item,l) else lh l e)
 else if e.Kind=3 ∨ e.Kind=4 ∨ e.Kind=5 ∨ e.Kind=6 then lh l e
 else (2,l)
theorem B5 {F:Nat} {l:List al} {c:Int} (h:ic l) (hF:400<F):vn F ⟨l⟩ c=some ((jL l c:Int),(cv l c).isSome):=by
 unfold vn
 rw [U7 h.sort (by have:=h.len; omega) (by have:=h.len; omega)]; rfl
theorem tG {F:Nat} {l:List al} {c:Int} (h:ic l) (hF:400<F):tC F ⟨l⟩ c=some ((cv l c).map Int.ofNat):=by
 unfold tC
 rw [B5 h hF]
 simp only [Option.bind_some]
 cases hp:cv l c with
 | none=>simp
 | some j =>
  obtain ⟨iC,_⟩:=dE hp
  simp only [Option.isSome_some,Bool.not_true,Bool.false_eq_true,if_false]
  rw [← tu h.sort hp,dj iC]
  rfl
theorem vz {F:Nat} {l:List al} {e:ax} (h:ic l) (hF:400<F):vm F ⟨l⟩ e.Ref=some (match cv l e.Ref.ID with | .none=>.none | some j=>match l[j]? with | .none=>.none | some r=>if og e r then .none else some (j:Int)):=by
 unfold vm
 rw [tG h hF]
 simp only [Option.bind_some]
 cases hp:cv l e.Ref.ID with
 | none=>rfl
 | some j =>
  obtain ⟨iC,_⟩:=dE hp
  simp only [Option.map_some,pL,List.getElem?_eq_getElem iC]
  rw [show Int.ofNat j=(j:Int) from rfl,dj iC]
  simp only [Option.bind_some,og,Bool.or_eq_true,decide_eq_true_eq]
  split
  ·rename_i hh; simp only [hh,if_true]
  ·rename_i hh; simp only [hh,if_false]
theorem HD {F:Nat} {l:List al} {e:ax} (h:ic l) (hF:400<F):yL F ⟨l⟩ e=some ((kR l e).1,⟨(kR l e).2⟩):=by
 unfold yL kR
 rw [vI (by omega),B5 h hF]
 simp only [Option.bind_some]
 by_cases h1:je e.Item=0
 ·have SM:=(vJ (F:=F) (by omega) h1).1
  simp only [h1,bne_self_eq_false,Bool.false_eq_true,if_false,ne_eq,not_true_eq_false]
  by_cases h2:e.Item.Version=1
  ·simp only [h2,bne_self_eq_false,Bool.false_eq_true,if_false,not_true_eq_false]
   by_cases h3:(cv l e.Item.ID).isSome=true
   ·simp only [h3,if_true]
   ·simp only [h3,if_false,Bool.false_eq_true]
    by_cases h4:40≤l.length
    ·have d:decide ((l.length:Int) ≥ 40)=true:=by simp; omega
     simp only [d,h4,if_true]
    ·have d:decide ((l.length:Int) ≥ 40)=false:=by simp; omega
     simp only [d,h4,if_false,Bool.false_eq_true,jf SM,Option.bind_some]
     unfold H5
     have hc:=ni l e.Item.ID
     rw [if_pos (by have:=h.len; constructor <;> omega)]
     rfl
  ·have d:(e.Item.Version != 1)=true:=by simp [h2]
   simp only [d,h2,if_true,not_false_eq_true]
 ·have d:(je e.Item != 0)=true:=by simp [h1]
  simp only [d,h1,if_true,ne_eq,not_false_eq_true]
theorem GQ {F:Nat} {l:List al} {e:ax} (h:ic l) (hF:400<F) (hk:e.Kind=2):yE F ⟨l⟩ e=some ((cY l e).1,⟨(cY l e).2⟩):=by
 unfold yE cY
 rw [vI (by omega),tG h hF]
 simp only [Option.bind_some,hk,show ¬ ((2:Int)=1) by omega,if_false,if_true]
 by_cases h1:je e.Item=0
 ·have SM:=(vJ (F:=F) (by omega) h1).1
  simp only [h1,bne_self_eq_false,Bool.false_eq_true,if_false,ne_eq,not_true_eq_false]
  unfold lh
  simp only [G4,hk,if_true]
  cases hp:cv l e.Item.ID with
  | none=>rfl
  | some j =>
   obtain ⟨iC,_⟩:=dE hp
   have hr:=h.ok l[j] (List.getElem_mem iC)
   simp only [Option.map_some,pL,List.getElem?_eq_getElem iC]
   rw [show Int.ofNat j=(j:Int) from rfl,dj iC]
   simp only [Option.bind_some,j8,hk,if_true]
   have hw:i64 ((l[j].ab.length:Int)+1)=(l[j].ab.length:Int)+1:=by have:=hr.n8; rw [cO (by omega) (by omega)]
   rw [hw]
   by_cases h2:l[j].ae=true ∨ e.Item.Version ≠ (l[j].ab.length:Int)+1
   ·have d:(l[j].ae || e.Item.Version != (l[j].ab.length:Int)+1)=true:=by simpa using h2
    simp only [d,if_true,h2,show ¬ ((8:Int)=0) by omega,if_false]
   ·have d:(l[j].ae || e.Item.Version != (l[j].ab.length:Int)+1)=false:=by simpa using h2
    simp only [d,Bool.false_eq_true,if_false,h2,jf SM,Option.bind_some]
    rw [c6 (by simp; have:=hr.n8; omega),Option.bind_some,c6 (by simp; have:=hr.n8; have:=hr.ap; omega)]
    simp
 ·have d:(je e.Item != 0)=true:=by simp [h1]
  simp only [d,h1,if_true,ne_eq,not_false_eq_true]
theorem Bv {e:ax} {r:al} (hr:sd r) (h:¬ og e r):idx r.ah (i64 (e.Ref.Version - 1))=some (rf e r)∧i64 (e.Ref.Version - 1)=e.Ref.Version - 1:=by
 unfold og at h
 have:=hr.n8
 have ha:=hr.ap
 have hw:i64 (e.Ref.Version - 1)=e.Ref.Version - 1:=by rw [cO (by omega) (by omega)]
 refine ⟨?_,hw⟩
 rw [hw]
 unfold rf
 rw [gF]
 refine ⟨by omega,?_⟩
 have:(e.Ref.Version - 1).toNat<r.ah.length:=by omega
 rw [List.getD_eq_getElem?_getD,List.getElem?_eq_getElem this]; rfl
theorem Cw {F:Nat} {l:List al} {e:ax} (h:ic l) (hF:400<F) (hk:e.Kind=3):yB F ⟨l⟩ e=some ((cY l e).1,⟨(cY l e).2⟩):=by
 unfold yB cY lh
 rw [vz h hF]
 simp only [Option.bind_some,hk,G4,show ¬ ((3:Int)=1) by omega,show ¬ ((3:Int)=2) by omega,if_false,true_or,if_true]
 cases hp:cv l e.Ref.ID with
 | none=>rfl
 | some j =>
  obtain ⟨iC,_⟩:=dE hp
  have hr:=h.ok l[j] (List.getElem_mem iC)
  simp only [List.getElem?_eq_getElem iC,j8,hk,show ¬ ((3:Int)=2) by omega,if_false,if_true]
  by_cases hb:og e l[j]
  ·simp only [hb,if_true,pL,show ¬ ((4:Int)=0) by omega,if_false]
  ·obtain ⟨q1,q2⟩:=Bv hr hb
   simp only [hb,if_false,pL,dj iC,Option.bind_some]
   by_cases hw:l[j].ae=true
   ·simp only [hw,if_true,show ¬ ((8:Int)=0) by omega,if_false]
   ·simp only [hw,if_false,q1,Option.bind_some,Bool.false_eq_true]
    by_cases ha:rf e l[j]=true
    ·simp only [ha,if_true,show ¬ ((5:Int)=0) by omega,if_false]
    ·simp only [ha,if_false,Bool.false_eq_true,q2,if_true]
     rfl
theorem Hb {F:Nat} {l:List ay} {p:ay→Option Bool} (f:ay→Bool) (hp:∀ u ∈ l,p u=some (f u)) (hb:l.length<1000000) (hF:l.length<F):Dh F l p=some (l.any f):=by
 unfold Dh Ip
 rw [e7 (a:=l) (L:=LY l p) (fun i x=>if f x=true then some (i:Int) else .none) (-1) hb (fun n i x hx hi=>?_) (fun n=>?_) hF]
 ·simp only [Option.bind_some]
  congr 1
  have key:∀ (l:List ay) (i:Nat),decide (scan (fun i x=>if f x=true then some (i:Int) else .none) (-1:Int) i l ≥ 0)=l.any f:=by
   intro l
   induction l with
   | nil=>intro i; rfl
   | cons x l ih =>
    intro i
    unfold scan
    rw [List.any_cons]
    cases hf:f x with
    | true=>simp
    | false=>simp only [Bool.false_eq_true,if_false,Bool.false_or]; exact ih (i+1)
  exact key l 0
 ·simp only [LY,Gc,jM hx,if_true,jy hx,Option.bind_some,jB hi,hp x (List.mem_of_getElem? hx)]
  cases f x <;> simp
 ·simp only [LY,Gc,jv,Bool.false_eq_true,if_false]
theorem QE {F:Nat} {l:List al} {e:ax} (h:ic l) (hF:400<F) (hk:e.Kind=4):mw F ⟨l⟩ e=some ((cY l e).1,⟨(cY l e).2⟩):=by
 unfold mw cY lh
 rw [vz h hF]
 simp only [Option.bind_some,hk,G4,show ¬ ((4:Int)=1) by omega,show ¬ ((4:Int)=2) by omega,show ¬ ((4:Int)=3) by omega,if_false,true_or,or_true,if_true]
 cases hp:cv l e.Ref.ID with
 | none=>rfl
 | some j =>
  obtain ⟨iC,_⟩:=dE hp
  have hr:=h.ok l[j] (List.getElem_mem iC)
  simp only [List.getElem?_eq_getElem iC,j8,hk,show ¬ ((4:Int)=2) by omega,show ¬ ((4:Int)=3) by omega,if_false,if_true]
  by_cases hb:og e l[j]
  ·simp only [hb,if_true,pL,show ¬ ((4:Int)=0) by omega,if_false]
  ·obtain ⟨q1,q2⟩:=Bv hr hb
   simp only [hb,if_false,pL,dj iC,Option.bind_some,q1,wG]
   have hu:=hr.us
   by_cases hw:l[j].ae=true ∨ rf e l[j]=false
   ·have d:(l[j].ae || !(rf e l[j]))=true:=by simpa using hw
    simp only [d,hw,if_true,show ¬ ((8:Int)=0) by omega,if_false]
   ·have d:(l[j].ae || !(rf e l[j]))=false:=by simpa using hw
    simp only [d,hw,if_false,Bool.false_eq_true]
    rw [Hb (p:=fun a0=>Cg a0 e) (fun u=>u.Form == e.Form) (fun u _=>rfl) (by omega) (by omega)]
    simp only [Option.bind_some]
    by_cases ha:(l[j].Uses.any fun u=>u.Form == e.Form)=true
    ·simp only [ha,if_true,show ¬ ((5:Int)=0) by omega,if_false]
    ·simp only [ha,if_false,Bool.false_eq_true]
     by_cases h3:300≤l[j].Uses.length
     ·have d3:decide ((l[j].Uses.length:Int) ≥ 300)=true:=by simp; omega
      simp only [d3,h3,if_true,show ¬ ((3:Int)=0) by omega,if_false]
     ·have d3:decide ((l[j].Uses.length:Int) ≥ 300)=false:=by simp; omega
      simp only [d3,h3,if_false,Bool.false_eq_true,if_true]
      rw [c6 (by simp; omega)]
      rfl
theorem tZ {F:Nat} {l:List al} {e:ax} (h:ic l) (hF:400<F) (hk:e.Kind=5 ∨ e.Kind=6):Dm F ⟨l⟩ e (decide (e.Kind=5))=some ((cY l e).1,⟨(cY l e).2⟩):=by
 have n1:¬ e.Kind=1:=by omega
 have n2:¬ e.Kind=2:=by omega
 have n3:¬ e.Kind=3:=by omega
 have n4:¬ e.Kind=4:=by omega
 unfold Dm cY lh
 rw [tG h hF]
 simp only [Option.bind_some,n1,n2,n3,n4,hk,G4,if_false,false_or,if_true]
 cases hp:cv l e.Ref.ID with
 | none=>rfl
 | some j =>
  obtain ⟨iC,_⟩:=dE hp
  simp only [Option.map_some,List.getElem?_eq_getElem iC,j8,n2,n3,n4,if_false,pL]
  rw [show Int.ofNat j=(j:Int) from rfl,dj iC]
  simp only [Option.bind_some,beq_iff_eq]
  by_cases hw:l[j].ae=decide (e.Kind=5)
  ·simp only [hw,if_true,show ¬ ((8:Int)=0) by omega,if_false]
  ·simp only [hw,if_false,if_true]
   rfl
theorem DL {l:List al} (hs:jc l) {k:Nat} (hk:k<l.length) {b:al} (hb:b.ID=l[k].ID):jc (l.set k b):=by
 unfold jc at *
 rw [List.pairwise_iff_getElem] at hs ⊢
 intro i j hi hj rI
 rw [List.getElem_set,List.getElem_set]
 have gn:i<l.length:=by simpa using hi
 have EY:j<l.length:=by simpa using hj
 split
 ·rename_i h1
  split
  ·omega
  ·subst h1; rw [hb]; exact hs _ _ gn EY rI
 ·split
  ·rename_i h1 h2; subst h2; rw [hb]; exact hs _ _ gn EY rI
  ·exact hs _ _ gn EY rI
theorem qL {l:List al} {n:Int} (h:cv l n=.none):∀ x ∈ l,x.ID ≠ n:=fun x hx hn=>by
 unfold cv at h
 rw [List.findIdx?_eq_none_iff] at h
 have:=h x hx
 simp [hn] at this
theorem DK {l:List al} (hs:jc l) {n:Int} (hn:cv l n=.none) {b:al} (hb:b.ID=n):jc (l.take (jL l n)++[b]++l.drop (jL l n)):=by
 have hc:=sv hs n
 have hk:=ni l n
 have ew:=qL hn
 generalize jL l n=k at hc hk
 have h1:∀ x ∈ l.take k,x.ID<n:=fun x hx=>by
  obtain ⟨q,hq,rfl⟩:=List.getElem_of_mem hx
  simp only [List.length_take] at hq
  rw [List.getElem_take]
  exact (hc q (by omega)).1 (by omega)
 have h2:∀ x ∈ l.drop k,n<x.ID:=fun x hx=>by
  obtain ⟨q,hq,rfl⟩:=List.getElem_of_mem hx
  simp only [List.length_drop] at hq
  rw [List.getElem_drop]
  have:=(hc (k+q) (by omega))
  have h3:=ew _ (List.getElem_mem (show k+q<l.length by omega))
  omega
 unfold jc at *
 rw [List.append_assoc,List.pairwise_append]
 refine ⟨hs.sublist (List.take_sublist _ _),?_,?_⟩
 ·rw [List.singleton_append,List.pairwise_cons]
  exact ⟨fun x hx=>by rw [hb]; exact h2 x hx,hs.sublist (List.drop_sublist _ _)⟩
 ·intro x hx y hy
  rw [List.singleton_append] at hy
  rcases List.mem_cons.1 hy with rfl | hy
  ·rw [hb]; exact h1 x hx
  ·have:=h1 x hx; have:=h2 y hy; omega
theorem EC {r:al} {e:ax}:(j8 r e).2.ID=r.ID:=by
 unfold j8
 repeat' split
 all_goals rfl
theorem ED {r:al} {e:ax} (h:sd r) (hc:e.Kind=2→je e.Item=0∧e.Item.ID=r.ID):sd (j8 r e).2:=by
 unfold j8
 split
 ·rename_i hk
  obtain ⟨c1,c2⟩:=hc hk
  split
  ·exact h
  ·rename_i h2
   simp only [not_or,ne_eq,Decidable.not_not] at h2
   have c3:=(vJ (F:=100) (by omega) c1).2
   refine ⟨by simp,by simp; omega,by simp [h.ap],h.us,fun i x hx=>?_,fun u hu=>?_⟩
   ·simp only [List.getElem?_append] at hx
    split at hx
    ·exact h.vs i x hx
    ·rename_i hi
     rw [List.getElem?_singleton] at hx
     split at hx
     ·cases hx; exact ⟨c1,c2,by omega⟩
     ·cases hx
   ·have:=h.uv u hu
    simp only [List.length_append,List.length_singleton]
    omega
 ·split
  ·split
   ·exact h
   ·split
    ·exact h
    ·split
     ·exact h
     ·exact ⟨h.n1,h.n8,by simp [h.ap],h.us,h.vs,h.uv⟩
  ·split
   ·split
    ·exact h
    ·rename_i hb
     split
     ·exact h
     ·split
      ·exact h
      ·split
       ·exact h
       ·refine ⟨h.n1,h.n8,h.ap,by simp; omega,h.vs,fun u hu=>?_⟩
        rcases List.mem_append.1 hu with hu | hu
        ·exact h.uv u hu
        ·rw [List.mem_singleton] at hu
         subst hu
         unfold og at hb
         simp only
         omega
   ·split
    ·exact h
    ·exact ⟨h.n1,h.n8,h.ap,h.us,h.vs,h.uv⟩
theorem uO {l:List al} {e:ax} (h:ic l) (hc:e.Kind=2→je e.Item=0):ic (lh l e).2:=by
 unfold lh
 cases hp:cv l (G4 e) with
 | none=>exact h
 | some k =>
  obtain ⟨hk,bE⟩:=dE hp
  simp only [List.getElem?_eq_getElem hk]
  split
  ·refine ⟨by simpa using h.len,DL h.sort hk EC,fun r hr=>?_⟩
   rcases List.mem_or_eq_of_mem_set hr with hr | rfl
   ·exact h.ok r hr
   ·refine ED (h.ok _ (List.getElem_mem hk)) fun h2=>⟨hc h2,?_⟩
    rw [bE]; simp [G4,h2]
  ·exact h
theorem ql {l:List al} {e:ax} (h:ic l):ic (cY l e).2:=by
 unfold cY
 split
 ·unfold kR
  split
  ·exact h
  ·rename_i h1
   split
   ·exact h
   ·rename_i h2
    split
    ·exact h
    ·rename_i h3
     split
     ·exact h
     ·rename_i h4
      simp only [ne_eq,Decidable.not_not] at h1 h2
      have hp:cv l e.Item.ID=.none:=by simpa using h3
      unfold Od
      refine ⟨by simp; have:=ni l e.Item.ID; omega,DK h.sort hp rfl,fun r hr=>?_⟩
      simp only [List.mem_append,List.mem_singleton] at hr
      rcases hr with (hr | rfl) | hr
      ·exact h.ok r (List.mem_of_mem_take hr)
      ·refine ⟨by simp,by simp,by simp,by simp,fun i x hx=>?_,by simp⟩
       simp only [List.getElem?_singleton] at hx
       split at hx
       ·cases hx; rename_i hi; exact ⟨h1,rfl,by omega⟩
       ·cases hx
      ·exact h.ok r (List.mem_of_mem_drop hr)
 ·split
  ·split
   ·exact h
   ·rename_i h1; exact uO h fun _=>by simpa using h1
  ·rename_i h2
   split
   ·exact uO h fun hk=>absurd hk h2
   ·exact h
theorem Bi {l:List al} {e:ax} (h:(cY l e).1 ≠ 0):(cY l e).2=l:=by
 revert h
 unfold cY kR lh
 repeat' split
 all_goals simp_all
theorem pU:ic []:=⟨by simp,by simp [jc],by simp⟩
end Go.Sh
namespace Go.Sh
open Go.L
def wT (r:al) (i:Nat) (x:ai):Bool:=decide (je x=0) && (decide (x.ID=r.ID) && decide (x.Version=(i:Int)+1))
def qs (r:al) (u:ay):Bool:=decide (1≤u.Version) && decide (u.Version≤(r.ab.length:Int))
def pO (r:al):Bool:=!(decide ((r.ab.length:Int)<1) || (decide ((r.ab.length:Int) > 8) || (((r.ah.length:Int) != (r.ab.length:Int)) || decide ((r.Uses.length:Int) > 300)))) &&
 scan (fun i x=>if wT r i x=true then .none else some false) (r.Uses.all (qs r)) 0 r.ab
theorem uG {F:Nat} {r:al} (hF:400<F):Du F r=some (pO r):=by
 unfold Du pO
 cases h1:(decide ((r.ab.length:Int)<1) || (decide ((r.ab.length:Int) > 8) || (((r.ah.length:Int) != (r.ab.length:Int)) || decide ((r.Uses.length:Int) > 300)))) with
 | true=>simp
 | false =>
  simp only [Bool.or_eq_false_iff,decide_eq_false_iff_not] at h1
  simp only [Bool.false_eq_true,if_false,Bool.not_false,Bool.true_and]
  refine e7 _ _ (by omega) (fun n i x hx hi=>?_) (fun n=>?_) (by omega)
  ·have WO:i<8:=by have:=(List.getElem?_eq_some_iff.1 hx).1; omega
   have hw:i64 ((i:Int)+1)=(i:Int)+1:=by rw [cO (by omega) (by omega)]
   simp only [Dn,Gp,jM hx,if_true,jy hx,Option.bind_some,vI (show 50<F by omega),wG,hw]
   have e:wT r i x=!((je x != 0) || (x.ID != r.ID || x.Version != (i:Int)+1)):=by
    unfold wT
    refine IS ?_
    simp only [Bool.and_eq_true,decide_eq_true_eq,Bool.not_eq_true',Bool.or_eq_false_iff,bne_eq_false_iff_eq]
   rw [e]
   cases ((je x != 0) || (x.ID != r.ID || x.Version != (i:Int)+1)) <;> simp
  ·simp only [Dn,Gp,jv,Bool.false_eq_true,if_false]
   refine Bu (L:=AX r) (qs r) (by omega) (fun n i x hx hi=>?_) (fun n=>?_) (by omega)
   ·simp only [AX,Gq,jM hx,if_true,jy hx,Option.bind_some,jB hi]
    have e:qs r x=!(decide (x.Version<1) || decide (x.Version > (r.ab.length:Int))):=by
     unfold qs
     refine IS ?_
     simp only [Bool.and_eq_true,decide_eq_true_eq,Bool.not_eq_true',Bool.or_eq_false_iff,decide_eq_false_iff_not]
     omega
    rw [e]
    cases (decide (x.Version<1) || decide (x.Version > (r.ab.length:Int))) <;> simp
   ·simp only [AX,Gq,jv,Bool.false_eq_true,if_false]
theorem GO {r:al}:pO r=true ↔ sd r:=by
 unfold pO
 rw [Bool.and_eq_true,qj]
 simp only [Bool.not_eq_true',Bool.or_eq_false_iff,decide_eq_false_iff_not,bne_eq_false_iff_eq,List.all_eq_true,qs,wT,Bool.and_eq_true,decide_eq_true_eq,Nat.zero_add]
 constructor
 ·rintro ⟨⟨a,b,c,d⟩,e,f⟩
  exact ⟨by omega,by omega,by omega,by omega,fun i x hx=>f i x hx,fun u hu=>e u hu⟩
 ·intro h
  have:=h.n1; have:=h.n8; have:=h.ap; have:=h.us
  exact ⟨⟨by omega,by omega,by omega,by omega⟩,fun u hu=>h.uv u hu,fun i x hx=>h.vs i x hx⟩
def Is (l:List al) (i:Nat) (x:al):Bool:=!(decide (0<i) && decide ((l.getD (i - 1) default).ID ≥ x.ID)) && pO x
def jD (l:List al):Bool:=decide (l.length≤40) && scan (fun i x=>if Is l i x=true then .none else some false) true 0 l
theorem JA {l:List al} {i:Nat} {x:al} (hi:i<1000000) (hx:l[i]?=some x) (h0:0<i):idx l (i64 ((i:Int) - 1))=some (l.getD (i - 1) default):=by
 have h1:=(List.getElem?_eq_some_iff.1 hx).1
 rw [cO (by omega) (by omega),show (i:Int) - 1=((i - 1:Nat):Int) by omega,np]
 rw [List.getD_eq_getElem?_getD,List.getElem?_eq_getElem (show i - 1<l.length by omega)]; rfl
theorem Hc {F:Nat} {l:List al} (hF:400<F):yM F ⟨l⟩=some (jD l):=by
 unfold yM jD
 by_cases h:l.length≤40
 ·have d:decide ((l.length:Int) > 40)=false:=by simp; omega
  simp only [d,Bool.false_eq_true,if_false,h,decide_true,Bool.true_and]
  refine e7 _ _ (by omega) (fun n i x hx hi=>?_) (fun n=>?_) (by omega)
  ·simp only [u9,yj,jM hx,if_true,jy hx,Option.bind_some,jB hi,uG hF]
   unfold Is
   by_cases h0:0<i
   ·have d:decide ((i:Int) > 0)=true:=by simp; exact h0
    simp only [d,if_true,JA hi hx h0,Option.bind_some,wG,h0,decide_true,Bool.true_and]
    cases decide ((l.getD (i - 1) default).ID ≥ x.ID) <;> cases pO x <;> simp
   ·have d:decide ((i:Int) > 0)=false:=by simp; omega
    simp only [d,Bool.false_eq_true,if_false,Option.bind_some,h0,decide_false,Bool.false_and,Bool.not_false,Bool.true_and]
    cases pO x <;> simp
  ·simp only [u9,yj,jv,Bool.false_eq_true,if_false]
 ·have d:decide ((l.length:Int) > 40)=true:=by simp; omega
  simp [d,h]
theorem DJ {l:List al} (h:∀ (i:Nat) x,l[i]?=some x→0<i→(l.getD (i - 1) default).ID<x.ID):jc l:=by
 unfold jc
 rw [List.pairwise_iff_getElem]
 have key:∀ (d i:Nat) (hi:i<l.length) (hj:i+d+1<l.length),l[i].ID<l[i+d+1].ID:=by
  intro d
  induction d with
  | zero =>
   intro i hi hj
   have:=h (i+1) l[i+1] (by simp) (by omega)
   simpa [hi] using this
  | succ d ih =>
   intro i hi hj
   have h1:=ih i hi (by omega)
   have:=h (i+(d+1)+1) l[i+(d+1)+1] (by simp) (by omega)
   rw [show i+(d+1)+1 - 1=i+d+1 by omega,List.getD_eq_getElem?_getD,List.getElem?_eq_getElem (show i+d+1<l.length by omega)] at this
   simp only [Option.getD_some] at this
   omega
 intro i j hi hj rI
 have:=key (j - i - 1) i hi (by omega)
 have e:i+(j - i - 1)+1=j:=by omega
 simpa only [e] using this
theorem o2 {l:List al}:jD l=true ↔ ic l:=by
 unfold jD
 rw [Bool.and_eq_true,qj,decide_eq_true_eq]
 simp only [Is,Bool.and_eq_true,Bool.not_eq_true',Bool.and_eq_false_iff,decide_eq_false_iff_not,GO,Nat.zero_add,true_and]
 constructor
 ·rintro ⟨h1,h2⟩
  refine ⟨h1,DJ fun i x hx h0=>?_,fun r hr=>?_⟩
  ·have:=(h2 i x hx).1; omega
  ·obtain ⟨i,hi⟩:=List.getElem?_of_mem hr
   exact (h2 i r hi).2
 ·intro h
  refine ⟨h.len,fun j x hx=>⟨?_,h.ok x (List.mem_of_getElem? hx)⟩⟩
  by_cases h0:0<j
  ·right
   obtain ⟨hj,rfl⟩:=List.getElem?_eq_some_iff.1 hx
   have:=List.pairwise_iff_getElem.1 h.sort (j - 1) j (by omega) hj (by omega)
   rw [List.getD_eq_getElem?_getD,List.getElem?_eq_getElem (show j - 1<l.length by omega)]
   simp only [Option.getD_some]; omega
  ·left; exact h0
structure uH (F:Nat) (r:al):Prop where
 vl:r.ab.length<1000000∧r.ab.length<F
 v:∀ x ∈ r.ab,Cu F x
 a:r.ah.length<1000000∧r.ah.length<F
 u:r.Uses.length<1000000∧r.Uses.length<F
theorem sd.sh {F:Nat} {r:al} (h:sd r) (hF:400<F):uH F r:=by
 have:=h.n8; have:=h.ap; have:=h.us
 refine ⟨by omega,fun x hx=>?_,by omega,by omega⟩
 obtain ⟨i,hi⟩:=List.getElem?_of_mem hx
 exact (vJ (by omega) (h.vs i x hi).1).1
structure ia (F:Nat) (l:List al):Prop where
 l1:l.length<1000000
 l2:l.length<F
 r:∀ r ∈ l,uH F r
theorem ic.sh {F:Nat} {l:List al} (h:ic l) (hF:400<F):ia F l :=
 ⟨by have:=h.len; omega,by have:=h.len; omega,fun r hr=>(h.ok r hr).sh hF⟩
theorem uk {F:Nat} {r:al} (h:uH F r):xX F r=some r:=by
 unfold xX
 rw [tb (by have:=h.vl.1; omega),Option.bind_some]
 have:=EH (a:=r.ab) (L:=AW r) (z:=ai.mk 0 0 (ByteArray.mk #[]) [] []) (F:=F) id (fun l=>al.mk r.ID l r.ah r.Uses r.ae)
  (fun n i x l l' hx hl=>by
   have hi:i<1000000:=by have:=(List.getElem?_eq_some_iff.1 hx).1; have:=h.vl.1; omega
   simp only [AW,Gn,jM hx,if_true,jy hx,Option.bind_some,jf (h.v x (List.mem_of_getElem? hx)),jB hi]
   rw [nm hl,Option.bind_some,pR hl]; rfl)
  (fun n l=>by
   simp only [AW,Gn,jv,Bool.false_eq_true,if_false]
   rw [c6 (by simp; have:=h.a.1; omega),Option.bind_some,c6 (by simp; have:=h.u.1; omega)]
   rfl) h.vl.2
 rw [this]; simp
def sj (l:List al) (e:ax):List al × Int :=
 if jD l=true then (if (cY l e).1=0 then ((cY l e).2,0) else ([],(cY l e).1)) else ([],1)
theorem sk {l:List al} {e:ax} (h:ic l):sj l e=if (cY l e).1=0 then ((cY l e).2,0) else ([],(cY l e).1):=by
 unfold sj; rw [if_pos (o2.2 h)]
def Ls (e:ax):rX:=⟨e.ar.Source,e.ar.Seq⟩
def jE:List ax→List al→List cj→List al × List cj
 | [],l,r=>(l,r)
 | e :: s,l,r=>jE s (cY l e).2 (if (cY l e).1=0 then r else r++[⟨Ls e,(cY l e).1⟩])
def kC (u:Int) (l:List ax):List ax:=l.takeWhile fun e=>decide (e.ar.Time≤u)
def lS (ev:List ax) (u:Int):List al × List cj × Int :=
 let c:=gK (·.ar) ev
 if c.2 ≠ 0 then ([],[],c.2) else ((jE (kC u c.1) [] []).1,(jE (kC u c.1) [] []).2,0)
theorem CH {F:Nat} {u:Int} {c:List ax} {z:Int} (hF:400<F) (hb:c.length<1000000):∀ (s p:List ax) (n:Nat) (l:List al) (r:List cj),c=p++s→s.length<n→ic l→r.length≤p.length→wv F u (c,z) n (p.length:Int) r l=some (⟨(jE (kC u s) l r).1⟩,(jE (kC u s) l r).2,0):=by
 intro s
 induction s with
 | nil=>intro p n l r hp hn hv hr; cases n with
  | zero=>omega
  | succ n =>
   have:c=p:=by simpa using hp
   subst this
   simp only [wv,yr,Int.lt_irrefl,decide_false,Bool.false_eq_true,if_false,kC,List.takeWhile_nil,jE]
 | cons e s ih=>intro p n l r hp hn hv hr; cases n with
  | zero=>omega
  | succ n =>
   have hlen:p.length<1000000:=by rw [hp] at hb; simp at hb; omega
   have d1:decide ((p.length:Int)<(c.length:Int))=true:=by rw [hp]; exact HC p e s
   have i1:idx c (p.length:Int)=some e:=by rw [hp]; exact jz p e s
   simp only [wv,yr,d1,if_true,i1,Option.bind_some]
   by_cases hu:e.ar.Time≤u
   ·have d2 : decide (e.ar.Time > u) = false := by simp; omega
    have hw:kC u (e :: s)=e :: kC u s:=by unfold kC; rw [List.takeWhile_cons_of_pos (by simpa using hu)]
    have BS:(cj.mk (Ls e) 0)=(cj.mk (Ls e) 0):=rfl
    have fin:∀ c':Int × List al,cY l e=c'→(if (c'.1 != 0)=true then (app r [cj.mk (rX.mk e.ar.Source e.ar.Seq) c'.1]).bind fun v=>wv F u (c,z) n (i64 ((p.length:Int)+1)) v c'.2 else wv F u (c,z) n (i64 ((p.length:Int)+1)) r c'.2)
      = some (⟨(jE (kC u (e :: s)) l r).1⟩,(jE (kC u (e :: s)) l r).2,0):=fun c' wU=>by
     rw [hw]
     simp only [jE,wU,LF p e (show p.length<1000000000 by omega)]
     have uU:ic c'.2:=by rw [← wU]; exact ql hv
     by_cases h0:c'.1=0
     ·simp only [h0,bne_self_eq_false,Bool.false_eq_true,if_false,if_true]
      exact ih (p++[e]) n _ r (by rw [hp]; simp) (by simpa using hn) uU (by simp; omega)
     ·have HL:(c'.1 != 0)=true:=by simp [h0]
      simp only [h0,HL,if_true,if_false]
      rw [c6 (by simp; omega),Option.bind_some]
      exact ih (p++[e]) n _ _ (by rw [hp]; simp) (by simpa using hn) uU (by simp; omega)
    simp only [d2,Bool.false_eq_true,if_false,beq_iff_eq]
    by_cases h1:e.Kind=1
    ·have e1:cY l e=kR l e:=by unfold cY; rw [if_pos h1]
     simp only [h1,if_true,HD hv hF,Option.bind_some]
     exact fin _ e1
    ·by_cases h2:e.Kind=2
     ·simp only [h2,show ¬ ((2:Int)=1) by omega,if_false,if_true,GQ hv hF h2,Option.bind_some]
      exact fin _ rfl
     ·by_cases h3:e.Kind=3
      ·simp only [h3,show ¬ ((3:Int)=1) by omega,show ¬ ((3:Int)=2) by omega,if_false,if_true,Cw hv hF h3,Option.bind_some]
       exact fin _ rfl
      ·by_cases h4:e.Kind=4
       ·simp only [h4,show ¬ ((4:Int)=1) by omega,show ¬ ((4:Int)=2) by omega,show ¬ ((4:Int)=3) by omega,if_false,if_true,QE hv hF h4,Option.bind_some]
        exact fin _ rfl
       ·by_cases h5:e.Kind=5
        ·have:=tZ hv hF (.inl h5)
         rw [show decide (e.Kind=5)=true by simp [h5]] at this
         simp only [h5,if_false,if_true,this,Option.bind_some,show ¬ ((5:Int)=1) by omega,show ¬ ((5:Int)=2) by omega,show ¬ ((5:Int)=3) by omega,show ¬ ((5:Int)=4) by omega]
         exact fin _ rfl
        ·by_cases h6:e.Kind=6
         ·have:=tZ hv hF (.inr h6)
          rw [show decide (e.Kind=5)=false by simp [h5]] at this
          simp only [h6,if_false,if_true,this,Option.bind_some,show ¬ ((6:Int)=1) by omega,show ¬ ((6:Int)=2) by omega,show ¬ ((6:Int)=3) by omega,show ¬ ((6:Int)=4) by omega,show ¬ ((6:Int)=5) by omega]
          exact fin _ rfl
         ·have e1:cY l e=(2,l):=by unfold cY; simp [h1,h2,h3,h4,h5,h6]
          simp only [h1,h2,h3,h4,h5,h6,if_false]
          exact fin _ e1
   ·have d2:decide (e.ar.Time > u)=true:=by simp; omega
    have hw:kC u (e :: s)=[]:=by unfold kC; rw [List.takeWhile_cons_of_neg (by simpa using hu)]
    simp [d2,hw,jE]
theorem sn {E:Type} [DecidableEq E] (st:E→aL) (l:List E):(gK st l).1.length≤l.length:=by
 unfold gK
 split
 ·simp
 ·exact Ka st l
theorem Kc {F:Nat} (hF:400<F) {ev:List ax} {u:Int} (hc:qw F ev) (hb:ev.length<1000000) (RI:ev.length<F):k7 F ev u=some (⟨(lS ev u).1⟩,(lS ev u).2.1,(lS ev u).2.2):=by
 unfold k7 lS
 rw [vG (by omega) hc hb RI]
 simp only [Option.bind_some]
 have hle:=sn (fun x:ax=>x.ar) ev
 generalize gK (fun x:ax=>x.ar) ev=c at hle
 by_cases h0:c.2=0
 ·simp only [h0,bne_self_eq_false,Bool.false_eq_true,if_false,ne_eq,not_true_eq_false]
  have:=CH (c:=c.1) (u:=u) (z:=c.2) hF (by omega) c.1 [] F [] [] rfl (by omega) pU (by simp)
  exact this
 ·have:(c.2 != 0)=true:=by simp [h0]
  simp [this,h0]
theorem uR:∀ {s:List ax} {l:List al} {r:List cj},ic l→ic (jE s l r).1
 | [],l,r,h=>h
 | e :: s,l,r,h=>by unfold jE; exact uR (ql h)
theorem CG {ev:List ax} {u:Int}:ic (lS ev u).1:=by
 unfold lS
 simp only
 split
 ·exact pU
 ·exact uR pU
end Go.Sh
namespace Go.Sh
open Go.L
def DW:al:=al.mk 0 [] [] [] false
def qZ:ai:=ai.mk 0 0 (ByteArray.mk #[]) [] []
def qC (l:List al) (c:Int):al × Bool:=match l.find? (fun r=>decide (r.ID=c)) with | some r=>(r,true) | .none=>(DW,false)
theorem qh {α R:Type} (q:α→Bool) (f:α→R) (e:R):∀ (l:List α) (i:Nat),scan (fun _ x=>if q x=true then some (f x) else .none) e i l=(match l.find? q with | some x=>f x | .none=>e)
 | [],i=>rfl
 | x :: l,i=>by
  unfold scan
  rw [List.find?_cons]
  cases hq:q x with
  | true=>simp
  | false=>simp only [Bool.false_eq_true,if_false]; exact qh q f e l (i+1)
theorem Kb {F:Nat} {l:List al} {c:Int} (h:ia F l):k6 F ⟨l⟩ c=some (qC l c):=by
 unfold k6
 have e:qC l c=scan (fun _ (x:al)=>if decide (x.ID=c)=true then some ((fun r=>(r,true)) x) else .none) (DW,false) 0 l:=by
  rw [qh]; unfold qC; cases l.find? (fun x=>decide (x.ID=c)) <;> rfl
 rw [e]
 refine e7 _ _ h.l1 (fun n i x hx hi=>?_) (fun n=>?_) h.l2
 ·simp only [vi,yq,jM hx,if_true,jy hx,Option.bind_some,jB hi,uk (h.r x (List.mem_of_getElem? hx)),uj]
  by_cases hc:x.ID=c <;> simp [hc]
 ·simp only [vi,yq,jv,Bool.false_eq_true,if_false]; rfl
def Br (l:List al) (c v:Int):ai × Bool:=match l.find? (fun r=>decide (r.ID=c)) with
 | some r=>if v<1 ∨ v > r.ab.length then (qZ,false) else (r.ab.getD (v - 1).toNat qZ,true)
 | .none=>(qZ,false)
theorem tY {F:Nat} {l:List al} {r:bG} (h:ia F l):vj F ⟨l⟩ r=some (Br l r.ID r.Version):=by
 unfold vj
 have e:Br l r.ID r.Version=scan (fun _ (x:al)=>if decide (x.ID=r.ID)=true then some ((fun x:al=>if r.Version<1 ∨ r.Version > x.ab.length then (qZ,false) else (x.ab.getD (r.Version - 1).toNat qZ,true)) x) else .none) (qZ,false) 0 l:=by
  rw [qh]; unfold Br; cases l.find? (fun x=>decide (x.ID=r.ID)) <;> rfl
 rw [e]
 refine e7 _ _ h.l1 (fun n i x hx hi=>?_) (fun n=>?_) h.l2
 ·simp only [Dv,GG,jM hx,if_true,jy hx,Option.bind_some,jB hi]
  have hr:=h.r x (List.mem_of_getElem? hx)
  by_cases hc:x.ID=r.ID
  ·simp only [hc,bne_self_eq_false,decide_true,if_true,Bool.false_eq_true,if_false]
   by_cases hv:r.Version<1 ∨ r.Version > x.ab.length
   ·have d:(decide (r.Version<1) || decide (r.Version > (x.ab.length:Int)))=true:=by simpa using hv
    simp only [d,if_true,hv]; rfl
   ·have d:(decide (r.Version<1) || decide (r.Version > (x.ab.length:Int)))=false:=by simpa using hv
    have hl:=hr.vl.1
    have hw:i64 (r.Version - 1)=r.Version - 1:=by rw [cO (by omega) (by omega)]
    have lB:(r.Version - 1).toNat<x.ab.length:=by omega
    have BO:idx x.ab (r.Version - 1)=some x.ab[(r.Version - 1).toNat]:=by rw [gF]; exact ⟨by omega,by simp [lB]⟩
    simp only [d,Bool.false_eq_true,if_false,hv,hw,BO,Option.bind_some,jf (hr.v _ (List.getElem_mem lB))]
    rw [List.getD_eq_getElem?_getD,List.getElem?_eq_getElem lB]; rfl
  ·have:(x.ID != r.ID)=true:=by simp [hc]
   simp only [this,hc,decide_false,if_true,Bool.false_eq_true,if_false]
 ·simp only [Dv,GG,jv,Bool.false_eq_true,if_false]; rfl
def xN (l:List Bool):Nat→Option Nat
 | 0=>.none
 | j+1=>if l.getD j false=true then some j else xN l j
def MR (time rest iz:Int) (r:al):Option bG :=
 if r.ae=true ∨ (r.Uses.length:Int) > iz then .none
 else if r.Uses.any (fun u=>decide (u.Time > time - rest))=true then .none
 else (xN r.ah r.ah.length).map fun (j:Nat)=>⟨r.ID,(j:Int)+1⟩
def BC (l:List al) (time rest iz:Int):List bG :=
 if jD l=false ∨ time<0 ∨ time > 1000000 ∨ rest<0 ∨ rest > 1000000 ∨ iz<0 then [] else l.filterMap (MR time rest iz)
theorem MS {aJ:Int→List bG→Option (List bG)} {n10:Int} {gN:List bG} {x:al} (ha:x.ah.length<1000000) (hl:gN.length<1000000):∀ (j n:Nat),j≤x.ah.length→j<n →
  A6 aJ n10 gN x n ((j:Int) - 1)=aJ (i64 (n10+1)) (gN++((xN x.ah j).map fun (k:Nat)=>bG.mk x.ID ((k:Int)+1)).toList):=by
 intro j
 induction j with
 | zero=>intro n hj hn; cases n with
  | zero=>omega
  | succ n =>
   have d:decide (((0:Nat):Int) - 1 ≥ 0)=false:=by simp
   simp only [A6,GF,d,Bool.false_eq_true,if_false,xN,Option.map_none,Option.toList_none,List.append_nil]
 | succ j ih=>intro n hj hn; cases n with
  | zero=>omega
  | succ n =>
   have d:decide (((j+1:Nat):Int) - 1 ≥ 0)=true:=by simp
   have e:((j+1:Nat):Int) - 1=(j:Int):=by omega
   have iC:j<x.ah.length:=by omega
   simp only [A6,GF,d,if_true]
   rw [e,dj iC]
   have hg:x.ah.getD j false=x.ah[j]:=by rw [List.getD_eq_getElem?_getD,List.getElem?_eq_getElem iC]; rfl
   simp only [Option.bind_some,xN,hg]
   cases hx:x.ah[j] with
   | true =>
    simp only [if_true,Option.map_some,Option.toList_some]
    rw [c6 (by simp; omega),Option.bind_some]
    have hw:i64 ((j:Int)+1)=(j:Int)+1:=by rw [cO (by omega) (by omega)]
    rw [hw]
   | false =>
    simp only [Bool.false_eq_true,if_false]
    rw [cO (by omega) (by omega)]
    exact ih n (by omega) (by omega)
theorem nZ {α β:Type} (f:α→Option β):∀ (l:List α) (i:Nat) (s:List β),run (fun _ x s=>(.inr (s++(f x).toList):List β ⊕ List β)) id i l s=s++l.filterMap f
 | [],i,s=>by simp [run]
 | x :: l,i,s=>by
  unfold run
  simp only
  rw [nZ f l,List.filterMap_cons]
  cases f x <;> simp
theorem sw {F:Nat} {l:List al} {time rest iz:Int} (hF:400<F):u7 F ⟨l⟩ time rest iz=some (BC l time rest iz):=by
  unfold u7 BC
  rw [Hc hF]
  simp only [Option.bind_some,wG]
  by_cases hc:jD l=false ∨ time<0 ∨ time > 1000000 ∨ rest<0 ∨ rest > 1000000 ∨ iz<0
  · have d:(!(jD l) || (decide (time<0) || (decide (time > 1000000) || (decide (rest<0) || (decide (rest > 1000000) || decide (iz<0))))))=true:=by simpa using hc
    simp only [d,if_true,hc]
  · have d:(!(jD l) || (decide (time<0) || (decide (time > 1000000) || (decide (rest<0) || (decide (rest > 1000000) || decide (iz<0))))))=false:=by simpa using hc
    simp only [d,Bool.false_eq_true,if_false,hc]
    simp only [not_or,Bool.not_eq_false] at hc
    obtain ⟨hv,h1,h2,h3,h4,h5⟩:=hc
    have hV:=o2.1 hv
    have hS:=hV.sh hF
    have hw:i64 (time - rest)=time - rest:=by rw [cO (by omega) (by omega)]
    have hlen:=hV.len
    have:=GR (a:=l) (L:=A5 F ⟨l⟩ time rest iz) (s0:=([]:List bG)) (F:=F) (fun _ x s=>(.inr (s++(MR time rest iz x).toList):List bG ⊕ List bG)) id (fun i s=>s.length≤i) hS.l1 (fun n i x s hx hI=>?_) (fun n s hI=>?_) hS.l2 (by simp)
    · rw [this,nZ]; simp
    · have Q6:=List.mem_of_getElem? hx
      have hi:i<1000000:=by have:=(List.getElem?_eq_some_iff.1 hx).1; omega
      have gM:=hV.ok x Q6
      refine ⟨?_, by simp only [List.length_append]; have : (MR time rest iz x).toList.length ≤ 1 := by cases MR time rest iz x <;> simp
                     omega⟩
      simp only [A5,GD,jM hx,if_true,jy hx,Option.bind_some,jB hi]
      unfold MR
      by_cases a1:x.ae=true ∨ (x.Uses.length:Int) > iz
      · have d1:(x.ae || decide ((x.Uses.length:Int) > iz))=true:=by simpa using a1
        simp only [d1,if_true,a1,Option.toList_none,List.append_nil]
      · have d1:(x.ae || decide ((x.Uses.length:Int) > iz))=false:=by simpa using a1
        simp only [d1,Bool.false_eq_true,if_false,a1]
        rw [Hb (p:=fun a0=>yi a0 time rest) (fun u=>decide (u.Time > time - rest)) (fun u _=>by unfold yi; rw [hw]) (hS.r x Q6).u.1 (hS.r x Q6).u.2]
        simp only [Option.bind_some]
        by_cases a2:(x.Uses.any fun u=>decide (u.Time > time - rest))=true
        · simp only [a2,if_true,Option.toList_none,List.append_nil]
        · simp only [a2,if_false,Bool.false_eq_true]
          have ha:=(hS.r x Q6).a
          rw [cO (by omega) (by omega),MS ha.1 (by omega) x.ah.length F (Nat.le_refl _) ha.2]
          rw [jB hi]
    · simp only [A5,GD,jv,Bool.false_eq_true,if_false]; rfl
theorem HA {F:Nat} (hF:2000≤F):yF F=some true:=by
 unfold yF
 rw [Kc (by omega) (fun e he=>by
  simp only [List.mem_cons,List.not_mem_nil,or_false] at he
  unfold Cu
  rcases he with rfl | rfl | rfl <;> simp <;> omega) (by simp) (by simp; omega)]
 have h1:lS [(ax.mk (aL.mk 3 0 2) 4 (ai.mk 0 0 (ByteArray.mk #[]) [] []) (bG.mk 5 1) 9),(ax.mk (aL.mk 1 0 0) 1 (ai.mk 5 1 (ByteArray.mk #[113]) [(aq.mk 1 3 0 0 0 0)] []) (bG.mk 0 0) 0),(ax.mk (aL.mk 2 0 1) 3 (ai.mk 0 0 (ByteArray.mk #[]) [] []) (bG.mk 5 1) 0)] 100
  = ([al.mk 5 [ai.mk 5 1 (ByteArray.mk #[113]) [(aq.mk 1 3 0 0 0 0)] []] [true] [ay.mk 1 9 3] false],[],0):=by decide +kernel
 rw [h1]
 simp only [Option.bind_some]
 rw [sw (by omega),sw (by omega)]
 have h2:BC [al.mk 5 [ai.mk 5 1 (ByteArray.mk #[113]) [(aq.mk 1 3 0 0 0 0)] []] [true] [ay.mk 1 9 3] false] 10 7 1=[bG.mk 5 1]:=by decide +kernel
 have h3:BC [al.mk 5 [ai.mk 5 1 (ByteArray.mk #[113]) [(aq.mk 1 3 0 0 0 0)] []] [true] [ay.mk 1 9 3] false] 10 8 1=[]:=by decide +kernel
 rw [h2,h3]
 simp [idx]
theorem wH {F:Nat} {a b:al} (h:uH F a):xY F a b=some (decide (a=b)):=by
 unfold xY
 cases hc:((a.ID != b.ID) || ((!(a.ae == b.ae)) || (((a.ab.length:Int) != (b.ab.length:Int)) || (((a.ah.length:Int) != (b.ah.length:Int)) || ((a.Uses.length:Int) != (b.Uses.length:Int)))))) with
 | true =>
  have:a ≠ b:=fun o4=>by subst o4; simp at hc
  simp [this]
 | false =>
  simp only [Bool.or_eq_false_iff,bne_eq_false_iff_eq,Bool.not_eq_false',beq_iff_eq] at hc
  obtain ⟨c1,c2,c3,c4,c5⟩:=hc
  simp only [Bool.false_eq_true,if_false]
  have l3:AZ a b F 0=some (decide (a.Uses=b.Uses)):=by
   refine z6 (by omega) h.u.1 (fun n i x y hx hy hi=>?_) (fun n=>?_) h.u.2
   ·simp only [AZ,Gt,jM hx,if_true,jy hx,jy hy,Option.bind_some,jB hi]
    by_cases lI:x=y <;> simp [lI]
   ·simp only [AZ,Gt,jv,Bool.false_eq_true,if_false]
  have l2:yK F a b F 0=some (decide (a.ah=b.ah) && decide (a.Uses=b.Uses)):=by
   rw [e7 (a:=a.ah) (L:=yK F a b) (fun i x=>if b.ah[i]?=some x then .none else some false) (decide (a.Uses=b.Uses)) h.a.1 (fun n i x hx hi=>?_) (fun n=>?_) h.a.2]
   ·have:=tT a.ah b.ah [] (decide (a.Uses=b.Uses)) (by omega)
    exact congrArg some this
   ·have gn:i<b.ah.length:=by have:=(List.getElem?_eq_some_iff.1 hx).1; omega
    simp only [yK,Gs,jM hx,if_true,jy hx,dj gn,Option.bind_some,jB hi]
    by_cases lI:x=b.ah[i]
    ·simp [lI,gn]
    ·have Lp:¬ b.ah[i]=x:=fun hh=>lI hh.symm
     simp [lI,Lp,gn]
   ·simp only [yK,Gs,jv,Bool.false_eq_true,if_false,l3]
  rw [e7 (a:=a.ab) (L:=AY F a b) (fun i x=>if b.ab[i]?=some x then .none else some false) (decide (a.ah=b.ah) && decide (a.Uses=b.Uses)) h.vl.1 (fun n i x hx hi=>?_) (fun n=>?_) h.vl.2]
  ·have:=tT a.ab b.ab [] (decide (a.ah=b.ah) && decide (a.Uses=b.Uses)) (by omega)
   refine (congrArg some this).trans (congrArg some (IS ?_))
   obtain ⟨i,v,p,u,w⟩:=a
   obtain ⟨i',v',p',u',w'⟩:=b
   simp only at c1 c2
   subst c1; subst c2
   simp only [Bool.and_eq_true,decide_eq_true_eq,al.mk.injEq,true_and,and_true]
  ·have gn:i<b.ab.length:=by have:=(List.getElem?_eq_some_iff.1 hx).1; omega
   simp only [AY,Gr,jM hx,if_true,jy hx,dj gn,Option.bind_some,jB hi,kK (h.v x (List.mem_of_getElem? hx))]
   by_cases lI:x=b.ab[i]
   ·simp [lI,gn]
   ·have Lp:¬ b.ab[i]=x:=fun hh=>lI hh.symm
    simp [lI,Lp,gn]
  ·simp only [AY,Gr,jv,Bool.false_eq_true,if_false,l2]
end Go.Sh
namespace Go.Sh
open Go.L
abbrev cP {α:Type} (x:Option α) (P:α→Prop):Prop:=∃ a,x=some a∧P a
theorem cP.bind {α β:Type} {x:Option α} {f:α→Option β} {P:α→Prop} {Q:β→Prop} (h:cP x P) (k:∀ a,P a→cP (f a) Q):cP (x.bind f) Q:=by
 obtain ⟨a,rfl,ha⟩:=h; exact k a ha
theorem cP.pure {α:Type} {a:α} {P:α→Prop} (h:P a):cP (some a) P:=⟨a,rfl,h⟩
theorem cP.ite {α:Type} {c:Prop} [Decidable c] {a b:Option α} {P:α→Prop} (h1:c→cP a P) (h2:¬ c→cP b P):cP (if c then a else b) P:=by
 by_cases h:c
 ·rw [if_pos h]; exact h1 h
 ·rw [if_neg h]; exact h2 h
theorem cP.app {α β:Type} {xs ys:List α} {f:List α→Option β} {Q:β→Prop} (h:xs.length+ys.length≤549755813888) (k:cP (f (xs++ys)) Q):cP ((app xs ys).bind f) Q:=by
 rw [c6 h]; exact k
theorem cP.idx {α β:Type} {l:List α} {i:Int} {f:α→Option β} {Q:β→Prop} (h0:0≤i) (h1:i<(l.length:Int)) (k:∀ x,x ∈ l→l[i.toNat]?=some x→cP (f x) Q):cP ((idx l i).bind f) Q:=by
 obtain ⟨j,rfl⟩:=Int.eq_ofNat_of_zero_le h0
 have hj:j<l.length:=by omega
 rw [dj hj,Option.bind_some]
 exact k _ (List.getElem_mem hj) (by simp [hj])
theorem cP.imp {α:Type} {x:Option α} {P Q:α→Prop} (h:cP x P) (k:∀ a,P a→Q a):cP x Q:=by obtain ⟨a,h1,h2⟩:=h; exact ⟨a,h1,k a h2⟩
theorem Tp.mk' {t:aP} (h:Tp t):Tp (aP.mk t.L t.At):=h
theorem jn {t:aP} (h:Tp t) (n:Int) (hn:n≤1000000000):cP (ja t n) fun r=>Tp r.2∧0≤r.1∧(1≤n→r.1<n)∧(n<1→r.1=0):=by
 obtain ⟨x,t',h1,h2,h3,h4,h5⟩:=td h n hn; exact ⟨_,h1,h2,h3,h4,h5⟩
theorem iS {t:aP} (h:Tp t) (a b:Int) (ha:-1000≤a) (o4:a≤b) (hb:b≤100000000):cP (kO t a b) fun r=>Tp r.2∧a≤r.1∧r.1≤b:=by
 obtain ⟨x,t',h1,h2,h3,h4⟩:=rQ h a b ha o4 hb; exact ⟨_,h1,h2,h3,h4⟩
theorem Il {t:aP} (h:Tp t) (n:Int) (hn:n≤1000000000):cP (oc t n) fun r=>Tp r.2:=by
 obtain ⟨x,t',h1,h2⟩:=Jw h n hn; exact ⟨_,h1,h2⟩
theorem B4 {t:aP} (h:Tp t) (l:List Int) (hl:1≤l.length) (BP:l.length≤1000):cP (ui t l) fun r=>Tp r.2∧r.1 ∈ l:=by
 obtain ⟨x,t',h1,h2,h3⟩:=Ga h l hl BP; exact ⟨_,h1,h2,h3⟩
theorem He {t:aP} (h:Tp t):cP (rY t) fun r=>Tp r.2:=by
 obtain ⟨x,t',h1,h2⟩:=Hf h; exact ⟨_,h1,h2⟩
theorem L6 {t:aP} (h:Tp t) (n:Int) (hn:n≤1000000):cP (Cr t n) fun r=>Tp r.2:=by
 obtain ⟨x,t',h1,h2⟩:=G6 h n hn; exact ⟨_,h1,h2⟩
theorem LD {L:List Int} {A n:Int} (h:Tp (aP.mk L A)) (hn:n≤1000000):cP (if decide (n > 0)=true then (oc (aP.mk L A) n).bind fun r=>some (r.1,r.2.L,r.2.At) else some (false,L,A)) fun w=>Tp (aP.mk w.2.1 w.2.2)∧(n≤0→w.1=false):=by
 refine cP.ite (fun hc=>?_) fun hc=>cP.pure ⟨h,fun _=>rfl⟩
 simp only [decide_eq_true_eq] at hc
 exact (Il h n (by omega)).bind fun r hr=>cP.pure ⟨hr,fun h0=>by omega⟩
theorem Jy {t:aP} (h:Tp t) (n:Int) (hn:n≤1000000):cP (Cp t n) fun r=>Tp r.2:=by
 unfold Cp
 refine (iS h 1 12 (by omega) (by omega) (by omega)).bind fun r1 h1=>?_
 refine (jn h1.1 4 (by omega)).bind fun r2 h2=>?_
 refine (jn h2.1 3 (by omega)).bind fun r3 h3=>?_
 refine (jn h3.1 3 (by omega)).bind fun r4 h4=>?_
 have key:∀ (L:List Int) (A a b c d:Int),Tp (aP.mk L A)→cP (Cq n r2 r3 L A a b c d) fun r=>Tp r.2:=fun L A a b c d hL=>by
  unfold Cq
  refine (LD hL hn).bind fun w hw=>?_
  refine cP.ite (fun _=>?_) fun _=>cP.pure hw.1
  refine (jn hw.1 6 (by omega)).bind fun r5 h5=>?_
  refine cP.ite (fun _=>(iS h5.1 (-1) 3 (by omega) (by omega) (by omega)).bind fun r hr=>cP.pure hr.1) fun _=>?_
  refine cP.ite (fun _=>(B4 h5.1 [0,40,41,(-1)] (by simp) (by simp)).bind fun r hr=>cP.pure hr.1) fun _=>?_
  refine cP.ite (fun _=>(He h5.1).bind fun r hr=>cP.pure hr) fun _=>?_
  refine cP.ite (fun _=>(He h5.1).bind fun r hr=>cP.pure hr) fun _=>?_
  refine cP.ite (fun _=>(iS h5.1 (-1) 6 (by omega) (by omega) (by omega)).bind fun r hr=>cP.pure hr.1) fun _=>?_
  exact (iS h5.1 (-1) 5 (by omega) (by omega) (by omega)).bind fun r hr=>cP.pure hr.1
 refine cP.ite (fun _=>?_) fun _=>key _ _ _ _ _ _ h4.1
 refine (iS h4.1 2 5 (by omega) (by omega) (by omega)).bind fun r5 h5=>?_
 refine (jn h5.1 r5.1 (by omega)).bind fun r6 h6=>?_
 exact (iS h6.1 1 3 (by omega) (by omega) (by omega)).bind fun r7 h7=>key _ _ _ _ _ _ h7.1
theorem GY:∀ (l:List Int),(Bd l).size=l.length:=by
 have key:∀ (l:List Int) (b:ByteArray),(l.foldl (fun r n=>r.push (UInt8.ofNat n.toNat)) b).size=b.size+l.length:=by
  intro l
  induction l with
  | nil=>intro b; simp
  | cons x l ih=>intro b; rw [List.foldl_cons,ih]; simp; omega
 intro l; unfold Bd; rw [key]; simp
theorem cP.wI {β:Type} {a b:ByteArray} {f:ByteArray→Option β} {Q:β→Prop} (h:a.size+b.size≤1000000000) (k:cP (f (a++b)) Q):cP ((Go.L.wI a b).bind f) Q:=by
 unfold Go.L.wI; rw [if_pos h]; exact k
theorem QF {F:Nat} {t:aP} (h:Tp t) (hF:20<F):cP (Ep F t 3) fun r=>Tp r.2∧r.1.size≤3:=by
 unfold Ep
 refine (iS h 1 3 (by omega) (by omega) (by omega)).bind fun r1 h1=>?_
 refine FK (L:=Er) (B:=Es) (fun _=>rfl) (fun b n l a=>(b.size:Int)+n≤3∧0≤n∧Tp (aP.mk l a)) (fun _ n _ _=>n.toNat) (fun r=>Tp r.2∧r.1.size≤3) ?_ F (ByteArray.mk #[]) r1.1 r1.2.L r1.2.At ⟨by show ((0:Nat):Int)+_≤3; omega,by omega,h1.1⟩ (by omega)
 intro rec b n l a hI ih
 obtain ⟨q1,q2,q3⟩:=hI
 unfold Es
 refine cP.ite (fun hc=>?_) fun hc=>cP.pure ⟨q3,by show b.size≤3; omega⟩
 simp only [decide_eq_true_eq] at hc
 refine (jn q3 3 (by omega)).bind fun r hr=>?_
 have hs:(Bd [(IntKind.u8.wrap (i64 (97+r.1)))]).size=1:=GY _
 refine cP.wI (by rw [hs]; omega) ?_
 rw [cO (n:=n - 1) (by omega) (by omega)]
 exact ih _ _ _ _ ⟨by rw [ByteArray.size_append,hs]; omega,by omega,hr.1⟩ (by omega)
def IM (x:ai):Prop:=x.aG.length≤20∧x.aE.length≤20
theorem IM.sh {F:Nat} {x:ai} (h:IM x) (hF:50<F):Cu F x:=by
 have:=h.1; have:=h.2
 exact ⟨⟨by omega,by omega⟩,by omega,by omega⟩
theorem Pd {F:Nat} {t:aP} (h:Tp t) (id v n:Int) (hn:n≤1000000) (hF:50<F):cP (Ej F t id v n) fun r=>Tp r.2∧IM r.1∧(n≤0→r.1.ID=id):=by
 unfold Ej
 refine (QF h (by omega)).bind fun r1 h1=>?_
 refine cP.wI (by show 1+_≤_; have:=h1.2; omega) ?_
 generalize (ByteArray.mk #[113])++r1.1=sb
 refine (iS h1.1 1 3 (by omega) (by omega) (by omega)).bind fun r3 h3=>?_
 have second:∀ (parts:List aq) (L:List Int) (A:Int),1≤parts.length→parts.length≤3→Tp (aP.mk L A)→cP (Co id v n sb parts F 0 L A ([]:List Int)) fun r=>Tp r.2∧IM r.1∧(n≤0→r.1.ID=id):=fun parts L A Uy WR hL=>by
  refine FK (L:=Co id v n sb parts) (B:=Em id v n sb parts) (fun _=>rfl) (fun i l a e=>0≤i∧i≤6∧(e.length:Int)≤i∧Tp (aP.mk l a)) (fun i _ _ _=>(6 - i).toNat) (fun r=>Tp r.2∧IM r.1∧(n≤0→r.1.ID=id)) ?_ F 0 L A [] ⟨by omega,by omega,by simp,hL⟩ (by omega)
  intro rec i l a e hI ih
  obtain ⟨q1,q2,q3,q4⟩:=hI
  have hi:i64 (i+1)=i+1:=cO (by omega) (by omega)
  unfold Em
  refine cP.ite (fun hc=>?_) fun hc=>?_
  ·simp only [decide_eq_true_eq] at hc
   have may:cP (if (i != id)=true then (oc (aP.mk l a) 8).bind fun hT=>some (hT.1,hT.2.L,hT.2.At) else some (false,l,a)) fun w=>Tp (aP.mk w.2.1 w.2.2) :=
    cP.ite (fun _=>(Il q4 8 (by omega)).bind fun r hr=>cP.pure hr) fun _=>cP.pure q4
   refine may.bind fun w hw=>?_
   rw [hi]
   refine cP.ite (fun _=>?_) fun _=>ih _ _ _ _ ⟨by omega,by omega,by omega,hw⟩ (by omega)
   exact cP.app (by simp; omega) (ih _ _ _ _ ⟨by omega,by omega,by simp; omega,hw⟩ (by omega))
  ·have hb:IM ⟨id,v,sb,parts,e⟩:=⟨by show parts.length≤20; omega,by show e.length≤20; omega⟩
   refine (LD q4 hn).bind fun w hw=>?_
   refine cP.ite (fun hm=>?_) fun _=>cP.pure ⟨hw.1,hb,fun _=>rfl⟩
   have kz:¬ n≤0:=fun h0=>by rw [hw.2 h0] at hm; cases hm
   refine (jn hw.1 7 (by omega)).bind fun r5 h5=>?_
   refine cP.ite (fun _=>(He h5.1).bind fun r hr=>cP.pure ⟨hr,hb,fun h0=>absurd h0 kz⟩) fun _=>?_
   refine cP.ite (fun _=>(B4 h5.1 [0,8,9,(-1)] (by simp) (by simp)).bind fun r hr=>cP.pure ⟨hr.1,hb,fun h0=>absurd h0 kz⟩) fun _=>?_
   refine cP.ite (fun _=>(jn h5.1 3 (by omega)).bind fun r hr=>?_) fun _=>?_
   ·exact cP.idx hr.2.1 (by simpa using hr.2.2.1 (by omega)) fun x _ _=>cP.pure ⟨hr.1,hb,fun h0=>absurd h0 kz⟩
   refine cP.ite (fun _=>cP.pure ⟨h5.1,⟨by simp,hb.2⟩,fun h0=>absurd h0 kz⟩) fun _=>?_
   refine cP.ite (fun _=>(Jy h5.1 1 (by omega)).bind fun r hr=>cP.app (by simp; omega) (cP.pure ⟨hr,⟨by simp; omega,hb.2⟩,fun h0=>absurd h0 kz⟩)) fun _=>?_
   refine cP.ite (fun _=>(B4 h5.1 [0,id,(-1),10000,3] (by simp) (by simp)).bind fun r hr=>cP.app (by simp; omega) (cP.pure ⟨hr.1,⟨hb.1,by simp; omega⟩,fun h0=>absurd h0 kz⟩)) fun _=>?_
   refine cP.idx (by omega) (by omega) fun x1 _ _=>?_
   refine cP.idx (by omega) (by omega) fun x2 _ _=>?_
   refine cP.idx (by omega) (by omega) fun x3 _ _=>?_
   refine cP.idx (by omega) (by omega) fun x4 _ _=>?_
   refine cP.idx (by omega) (by omega) fun x5 _ _=>?_
   refine cP.idx (by omega) (by omega) fun x6 _ _=>?_
   exact cP.app (by simp; omega) (cP.pure ⟨h5.1,⟨by simp; omega,hb.2⟩,fun h0=>absurd h0 kz⟩)
 refine FK (L:=Ek F id v n sb) (B:=El F id v n sb) (fun _=>rfl) (fun k l a p=>0≤k∧(p.length:Int)+k≤3∧1≤(p.length:Int)+k∧Tp (aP.mk l a)) (fun k _ _ _=>k.toNat) (fun r=>Tp r.2∧IM r.1∧(n≤0→r.1.ID=id)) ?_ F r3.1 r3.2.L r3.2.At [] ⟨by omega,by simp; omega,by simp; omega,h3.1⟩ (by omega)
 intro rec k l a p hI ih
 obtain ⟨q1,q2,q3,q4⟩:=hI
 unfold El
 refine cP.ite (fun hc=>?_) fun hc=>second p l a (by simp at hc; omega) (by omega) q4
 simp only [decide_eq_true_eq] at hc
 refine (Jy q4 0 (by omega)).bind fun r hr=>?_
 rw [cO (n:=k - 1) (by omega) (by omega)]
 exact cP.app (by simp; omega) (ih _ _ _ _ ⟨by omega,by simp; omega,by simp; omega,hr⟩ (by omega))
def U3 (n:Int) (e:ax):Prop:=IM e.Item∧(n≤0→0≤e.Item.ID∧e.Item.ID<5)
def q9 (n:Int) (l:List ax):Prop:=∀ e ∈ l,U3 n e
theorem q9.short {F:Nat} {n:Int} {l:List ax} (h:q9 n l) (hF:50<F):qw F l:=fun e he=>(h e he).1.sh hF
section
variable {aJ:Int→List Int→Int→List Int→List ax→Option (List ax × aP)} {n3:Int} {l7:List ax} {jb:List ax × aP→Prop} {n:Int}
def zQ (aJ:Int→List Int→Int→List Int→List ax→Option (List ax × aP)) (n3:Int) (l7:List ax) (n:Int) (jb:List ax × aP→Prop):Prop :=
 ∀ (t:aP) (vs:List Int) (l:List ax),Tp t→vs.length=5→l.length≤l7.length+2→q9 n l→cP (aJ (i64 (n3 - 1)) t.L t.At vs l) jb
theorem CE (hl:l7.length≤1000) (hc:q9 n l7) (h:zQ aJ n3 l7 n jb) {n18 n25 n27 n28 n29 n30 n31 n32 n33 A:Int} {sb:ByteArray} {ps:List aq} {es vs L:List Int} (hv:vs.length=5) (rq:ps.length≤20) (CQ:es.length≤20) (bE:n≤0→0≤n18∧n18<5) (ht:Tp (aP.mk L A)) :
  cP (Hi aJ n3 l7 n18 sb ps es n25 vs n27 n28 n29 n30 n31 n32 n33 L A) jb:=by
 unfold Hi
 refine cP.app (by simp; omega) ?_
 have wU:q9 n (l7++[ax.mk (aL.mk n27 n28 n29) n30 (ai.mk n18 n31 sb ps es) (bG.mk n32 n33) n25]):=fun x hx=>by
  rcases List.mem_append.1 hx with hx | hx
  ·exact hc x hx
  ·simp only [List.mem_singleton] at hx; subst hx; exact ⟨⟨rq,CQ⟩,bE⟩
 have iL:(l7++[ax.mk (aL.mk n27 n28 n29) n30 (ai.mk n18 n31 sb ps es) (bG.mk n32 n33) n25]).length=l7.length+1:=by simp
 generalize l7++[ax.mk (aL.mk n27 n28 n29) n30 (ai.mk n18 n31 sb ps es) (bG.mk n32 n33) n25]=v at wU iL
 refine (Il ht 8 (by omega)).bind fun r hr=>?_
 refine cP.ite (fun _=>?_) fun _=>h _ _ _ hr hv (by omega) wU
 refine (jn hr (v.length:Int) (by omega)).bind fun r2 h2=>?_
 refine cP.idx h2.2.1 (h2.2.2.1 (by omega)) fun x hx _=>?_
 refine cP.app (by simp; omega) (h _ _ _ h2.1 hv (by simp; omega) fun y hy=>?_)
 rcases List.mem_append.1 hy with hy | hy
 ·exact wU y hy
 ·simp only [List.mem_singleton] at hy; subst hy; exact wU _ hx
theorem MT (hn:n≤1000000) (hl:l7.length≤1000) (hc:q9 n l7) (h:zQ aJ n3 l7 n jb) {dy cM:Int × aP} {n16 n17 n18 n19 n23 n24 n25:Int} {sb:ByteArray} {ps:List aq} {es vs L:List Int} (hv:vs.length=5) (rq:ps.length≤20) (CQ:es.length≤20) (bE:n≤0→0≤n18∧n18<5) (ht:Tp (aP.mk L n16)) :
  cP (Mk aJ n n3 l7 dy cM L n16 n17 n18 n19 sb ps es n23 n24 n25 vs) jb:=by
 unfold Mk
 refine (LD ht hn).bind fun w hw=>?_
 refine cP.ite (fun _=>?_) fun _=>CE hl hc h hv rq CQ bE hw.1
 refine (jn hw.1 5 (by omega)).bind fun r5 h5=>?_
 refine cP.ite (fun _=>(iS h5.1 (-1) 8 (by omega) (by omega) (by omega)).bind fun r hr=>CE hl hc h hv rq CQ bE hr.1) fun _=>?_
 refine cP.ite (fun _=>(iS h5.1 (-1) 3 (by omega) (by omega) (by omega)).bind fun r hr=>CE hl hc h hv rq CQ bE hr.1) fun _=>?_
 refine cP.ite (fun _=>(jn h5.1 7 (by omega)).bind fun r hr=>CE hl hc h hv rq CQ bE hr.1) fun _=>?_
 refine cP.ite (fun _=>(L6 h5.1 3 (by omega)).bind fun r hr=>CE hl hc h hv rq CQ bE hr) fun _=>?_
 exact (iS h5.1 0 3 (by omega) (by omega) (by omega)).bind fun r hr=>CE hl hc h hv rq CQ bE hr.1
end
theorem vD {F:Nat} {t:aP} (h:Tp t) (iz:Nat) (n:Int) (hm:iz≤300) (hn:n≤1000000) (hF:400<F):∃ l t',Mj F t iz n=some (l,t')∧Tp t'∧l.length≤2 * iz∧q9 n l:=by
 have key:cP (Mj F t iz n) fun r=>Tp r.2∧r.1.length≤2 * iz∧q9 n r.1:=by
  unfold Mj
  rw [show (5:Int)=((5:Nat):Int) from rfl,tb (by omega),Option.bind_some]
  refine (iS h 0 iz (by omega) (by omega) (by omega)).bind fun r2 h2=>?_
  refine Pj (L:=Eh F n) (B:=Ei F n) (fun _=>rfl) (fun k l a vs Mm=>0≤k∧(Mm.length:Int)+2 * k≤2 * iz∧vs.length=5∧q9 n Mm∧Tp (aP.mk l a)) (fun k _ _ _ _=>k.toNat) (fun r=>Tp r.2∧r.1.length≤2 * iz∧q9 n r.1) ?_ F r2.1 r2.2.L r2.2.At (List.replicate 5 0) [] ⟨by omega,by simp; omega,by simp,fun e he=>by simp at he,h2.1⟩ (by omega)
  intro rec k l a vs Mm hI ih
  obtain ⟨q1,q2,q3,q4,q5⟩:=hI
  unfold Ei
  refine cP.ite (fun hc=>?_) fun hc=>cP.pure ⟨q5,by show Mm.length≤_; omega,q4⟩
  simp only [decide_eq_true_eq] at hc
  have nV:zQ rec k Mm n fun r=>Tp r.2∧r.1.length≤2 * iz∧q9 n r.1:=fun t' fQ l' a1 a2 a3 a4=>by
   rw [cO (n:=k - 1) (by omega) (by omega)]
   exact ih _ _ _ _ _ ⟨by omega,by omega,a2,a4,a1⟩ (by omega)
  refine (jn q5 5 (by omega)).bind fun r9 h9=>?_
  have b9:=h9.2.2.1 (by omega)
  refine (jn h9.1 2 (by omega)).bind fun dy MW=>?_
  refine (jn MW.1 2 (by omega)).bind fun cM Vd=>?_
  refine (B4 Vd.1 [3,4,4,2,5,6] (by simp) (by simp)).bind fun dz Mn=>?_
  refine cP.idx h9.2.1 (by omega) fun fe _ _=>?_
  refine (jn Mn.1 4 (by omega)).bind fun fg T7=>?_
  have hw:cP ((idx vs r9.1).bind fun QG=>if (QG == 0)=true then some true else some (dz.1 == 2)) fun _=>True :=
   cP.idx h9.2.1 (by omega) fun x _ _=>cP.ite (fun _=>cP.pure trivial) fun _=>cP.pure trivial
  have j4:∀ k4:Int,cP (Ml rec F n k vs Mm r9 dy cM fg k4) fun r=>Tp r.2∧r.1.length≤2 * iz∧q9 n r.1:=fun k4=>by
   unfold Ml
   refine cP.idx h9.2.1 (by omega) fun Hy _ _=>?_
   refine cP.idx h9.2.1 (by omega) fun U1 _ _=>?_
   refine cP.idx h9.2.1 (by simp; omega) fun QH _ _=>?_
   refine (Pd T7.1 r9.1 QH n hn (by omega)).bind fun rB QQ=>?_
   exact MT hn (by omega) q4 nV (by simp [q3]) QQ.2.1.1 QQ.2.1.2 (fun h0=>by rw [QQ.2.2 h0]; omega) QQ.1
  refine hw.bind fun w _=>cP.ite (fun _=>?_) fun _=>?_
  ·refine cP.idx h9.2.1 (by omega) fun QI _ _=>?_
   exact cP.ite (fun _=>j4 _) fun _=>j4 _
  ·exact MT hn (by omega) q4 nV q3 (by simp) (by simp) (fun _=>by omega) T7.1
 obtain ⟨⟨l,t'⟩,h1,h2⟩:=key
 exact ⟨l,t',h1,h2⟩
end Go.Sh
namespace Go.Sh
open Go.L
theorem wF (p:aq):ym p=some (rv p):=by
 unfold ym rv
 cases (decide (p.Max<1) || (decide (p.Max > 40) || (decide (p.e6<0) || (decide (p.e6 ≥ 16) || (decide (p.ct<0) || decide (p.ct ≥ 6)))))) with
 | true=>simp
 | false =>
  by_cases h1:p.Kind=1
  ·simp only [h1,Bool.false_eq_true,if_false,if_true,beq_self_eq_true,Bool.not_false,Bool.true_and,uj]
  ·have:(p.Kind == 1)=false:=by simp [h1]
   simp only [h1,this,Bool.false_eq_true,if_false,Bool.not_false,Bool.true_and,uj]
theorem Gb (s:ByteArray):Df s=allI (fun _ (b:UInt8)=>!(decide ((b.toNat:Int)<32) || decide ((b.toNat:Int) > 126))) 0 s.data.toList:=by
 unfold Df; rw [pd]
theorem FZ (id:Int) (l:List Int):ti id l=allI (fun i x=>!(uI id l i x)) 0 l:=by
 unfold ti allI
 congr 1
 funext i x
 cases hb:uI id l i x <;> simp [hb]
theorem tF {F:Nat} {x:ai} (hF:50<F):tD F x=some (je x):=by
 unfold tD je
 have e1:(decide (x.ID<0) || (decide (x.ID > 9999) || (decide (x.Version<1) || decide (x.Version > 8))))=(!(decide (x.ID ≥ 0) && decide (x.ID≤9999)) || (decide (x.Version<1) || decide (x.Version > 8))):=by
  refine IS ?_
  simp only [Bool.or_eq_true,decide_eq_true_eq,Bool.not_eq_true',Bool.and_eq_false_iff,decide_eq_false_iff_not]
  omega
 rw [e1]
 cases h1:(!(decide (x.ID ≥ 0) && decide (x.ID≤9999)) || (decide (x.Version<1) || decide (x.Version > 8))) with
 | true=>simp
 | false =>
  simp only [Bool.false_eq_true,if_false]
  cases h2:(decide ((x.bI.size:Int) > 40) || (decide ((x.aG.length:Int) > 6) || decide ((x.aE.length:Int) > 8))) with
  | true=>simp
  | false =>
   simp only [Bool.or_eq_false_iff,decide_eq_false_iff_not] at h2
   simp only [Bool.false_eq_true,if_false]
   by_cases h0:x.bI=ByteArray.mk #[]
   ·simp [h0]
   ·simp only [h0,decide_false,Bool.false_eq_true,if_false,Bool.false_or]
    have e5:(x.bI.size:Int)=(x.bI.data.toList.length:Int):=by
     show ((x.bI.data.size:Nat):Int)=_
     rw [Array.length_toList]
    have hl:x.bI.data.toList.length=x.bI.size:=Array.length_toList
    have l3:yR x F 0=some (if ti x.ID x.aE=true then 0 else 9):=by
     rw [FZ,j3 (a:=x.aE) (L:=yR x) (fun i y=>if (!(uI x.ID x.aE i y))=true then .none else some 9) (some 0) (by omega) (fun n i y hy hi=>?_) (fun n=>?_) (by omega),kl]
     ·split <;> rfl
     ·simp only [yR,yb,jM hy,if_true,jy hy,Option.bind_some,jB hi]
      unfold uI
      have e2:(!(decide (y ≥ 0) && decide (y≤9999)))=(decide (y<0) || decide (y > 9999)):=by
       refine IS ?_
       simp only [Bool.or_eq_true,decide_eq_true_eq,Bool.not_eq_true',Bool.and_eq_false_iff,decide_eq_false_iff_not]
       omega
      rw [e2]
      by_cases h0:0<i
      ·have d:decide ((i:Int) > 0)=true:=by simp; exact h0
       simp only [d,if_true,Jz hi hy h0,Option.bind_some,wG,h0,decide_true,Bool.true_and,uj,Bool.or_assoc]
       cases (decide (y<0) || (decide (y > 9999) || (decide (y=x.ID) || decide (x.aE.getD (i - 1) 0 ≥ y)))) <;> simp
      ·have d:decide ((i:Int) > 0)=false:=by simp; omega
       simp only [d,Bool.false_eq_true,if_false,Option.bind_some,wG,h0,decide_false,Bool.false_and,uj,Bool.or_assoc]
       cases (decide (y<0) || (decide (y > 9999) || (decide (y=x.ID) || false))) <;> simp
     ·simp only [yR,yb,jv,Bool.false_eq_true,if_false]
    have l2:yQ F x F 0=some (if x.aG.all rv=true then (if ti x.ID x.aE=true then 0 else 9) else 1):=by
     rw [j3 (a:=x.aG) (L:=yQ F x) (fun _ y=>if rv y=true then .none else some 1) (some (if ti x.ID x.aE=true then 0 else 9)) (by omega) (fun n i y hy hi=>?_) (fun n=>?_) (by omega),kl (fun _ y=>rv y),pd]
     ·split <;> rfl
     ·simp only [yQ,ya,jM hy,if_true,jy hy,Option.bind_some,jB hi,wF]
      cases rv y <;> simp
     ·simp only [yQ,ya,jv,Bool.false_eq_true,if_false,l3]
    rw [Gb,j3 (a:=x.bI.data.toList) (L:=A7 F x) (fun _ (b:UInt8)=>if (!(decide ((b.toNat:Int)<32) || decide ((b.toNat:Int) > 126)))=true then .none else some 7) (some (if x.aG=[] then 10 else if x.aG.all rv=true then (if ti x.ID x.aE=true then 0 else 9) else 1)) (by omega) (fun n i y hy hi=>?_) (fun n=>?_) (by omega),kl (fun _ (b:UInt8)=>!(decide ((b.toNat:Int)<32) || decide ((b.toNat:Int) > 126)))]
    ·cases allI (fun _ (b:UInt8)=>!(decide ((b.toNat:Int)<32) || decide ((b.toNat:Int) > 126))) 0 x.bI.data.toList <;> simp
    ·simp only [A7,xZ,e5,jM hy,if_true,JS hy,Option.bind_some,jB hi,wG]
     cases (decide ((y.toNat:Int)<32) || decide ((y.toNat:Int) > 126)) <;> simp
    ·simp only [A7,xZ,e5,jv,Bool.false_eq_true,if_false,l2]
     by_cases h3:x.aG=[]
     ·simp [h3]
     ·have h4:((x.aG.length:Int) == 0)=false:=by
       rw [beq_eq_false_iff_ne]; intro h; exact h3 (List.eq_nil_of_length_eq_zero (by omega))
      simp only [h3,h4,Bool.false_eq_true,if_false]
theorem GU {F:Nat} {l:List al} (hF:400<F):yI F ⟨l⟩=some (jD l):=by
  unfold yI jD
  by_cases h:l.length≤40
  · have d:decide ((l.length:Int) > 40)=false:=by simp; omega
    simp only [d,Bool.false_eq_true,if_false,h,decide_true,Bool.true_and]
    refine e7 _ _ (by omega) (fun n i x hx hi=>?_) (fun n=>?_) (by omega)
    · have next:∀ (hh:(decide ((x.ab.length:Int)<1) || (decide ((x.ab.length:Int) > 8) || (((x.ah.length:Int) != (x.ab.length:Int)) || decide ((x.Uses.length:Int) > 300))))=false),
          yS (Ch F ⟨l⟩ n) F (i:Int) x F 0=if pO x=true then Ch F ⟨l⟩ n ((i+1:Nat):Int) else some false:=fun hh=>by
        simp only [Bool.or_eq_false_iff,decide_eq_false_iff_not] at hh
        have l3:yT (Ch F ⟨l⟩ n) (i:Int) x F 0=if x.Uses.all (qs x)=true then Ch F ⟨l⟩ n ((i+1:Nat):Int) else some false:=by
          rw [j3 (a:=x.Uses) (L:=yT (Ch F ⟨l⟩ n) (i:Int) x) (fun _ y=>if qs x y=true then .none else some false) (Ch F ⟨l⟩ n ((i+1:Nat):Int)) (by omega) (fun n' i' y hy gn=>?_) (fun n'=>?_) (by omega),kl (fun _ y=>qs x y),pd]
          · simp only [yT,yf,jM hy,if_true,jy hy,Option.bind_some,jB gn,wG]
            have e:qs x y=!(decide (y.Version<1) || decide (y.Version > (x.ab.length:Int))):=by
              unfold qs
              refine IS ?_
              simp only [Bool.and_eq_true,decide_eq_true_eq,Bool.not_eq_true',Bool.or_eq_false_iff,decide_eq_false_iff_not]
              omega
            rw [e]
            cases (decide (y.Version<1) || decide (y.Version > (x.ab.length:Int))) <;> simp
          · simp only [yT,yf,jv,Bool.false_eq_true,if_false,jB hi]
        rw [j3 (a:=x.ab) (L:=yS (Ch F ⟨l⟩ n) F (i:Int) x) (fun i' y=>if wT x i' y=true then .none else some false) (if x.Uses.all (qs x)=true then Ch F ⟨l⟩ n ((i+1:Nat):Int) else some false) (by omega) (fun n' i' y hy gn=>?_) (fun n'=>?_) (by omega),kl]
        · have er:pO x=(allI (wT x) 0 x.ab && x.Uses.all (qs x)):=by
            unfold pO
            rw [yY]
            have:(decide ((x.ab.length:Int)<1) || (decide ((x.ab.length:Int) > 8) || (((x.ah.length:Int) != (x.ab.length:Int)) || decide ((x.Uses.length:Int) > 300))))=false:=by
              simp only [Bool.or_eq_false_iff,decide_eq_false_iff_not]; exact hh
            rw [this]; simp
          rw [er]
          cases allI (wT x) 0 x.ab <;> cases x.Uses.all (qs x) <;> simp
        · have hw:i64 ((i':Int)+1)=(i':Int)+1:=by have:=(List.getElem?_eq_some_iff.1 hy).1; rw [cO (by omega) (by omega)]
          have Se:i64 ((i':Int)+1)=((i'+1:Nat):Int):=jB gn
          simp only [yS,ye,jM hy,if_true,jy hy,Option.bind_some,tF (show 50<F by omega),wG]
          have e:wT x i' y=!((je y != 0) || (y.ID != x.ID || y.Version != (i':Int)+1)):=by
            unfold wT
            refine IS ?_
            simp only [Bool.and_eq_true,decide_eq_true_eq,Bool.not_eq_true',Bool.or_eq_false_iff,bne_eq_false_iff_eq]
          rw [e,Se]
          rw [show (((i'+1:Nat):Int))=(i':Int)+1 from rfl]
          cases ((je y != 0) || (y.ID != x.ID || y.Version != (i':Int)+1)) <;> simp
        · simp only [yS,ye,jv,Bool.false_eq_true,if_false,l3]
      simp only [Ch,yd,jM hx,if_true,jy hx,Option.bind_some,wG]
      unfold Is
      have Ni:(!(decide ((x.ab.length:Int)<1) || (decide ((x.ab.length:Int) > 8) || (((x.ah.length:Int) != (x.ab.length:Int)) || decide ((x.Uses.length:Int) > 300)))))=false→pO x=false:=fun hh=>by
        unfold pO; rw [hh]; rfl
      generalize hH:(decide ((x.ab.length:Int)<1) || (decide ((x.ab.length:Int) > 8) || (((x.ah.length:Int) != (x.ab.length:Int)) || decide ((x.Uses.length:Int) > 300))))=H at next Ni
      by_cases h0:0<i
      · have d:decide ((i:Int) > 0)=true:=by simp; exact h0
        simp only [d,if_true,JA hi hx h0,Option.bind_some,wG,h0,decide_true,Bool.true_and]
        cases hb:decide ((l.getD (i - 1) default).ID ≥ x.ID) with
        | true=>simp
        | false =>
          cases MZ:H with
          | true=>rw [MZ] at Ni; rw [Ni rfl]; simp
          | false=>rw [MZ] at next; simp only [Bool.or_self,Bool.false_eq_true,if_false,Bool.not_false,Bool.true_and]; rw [next rfl]; cases pO x <;> simp
      · have d:decide ((i:Int) > 0)=false:=by simp; omega
        simp only [d,Bool.false_eq_true,if_false,Option.bind_some,h0,decide_false,Bool.false_and,Bool.not_false,Bool.true_and,wG,hH]
        cases MZ:H with
        | true=>rw [MZ] at Ni; rw [Ni rfl]; simp
        | false=>rw [MZ] at next; simp only [Bool.false_eq_true,if_false]; rw [next rfl]; cases pO x <;> simp
    · simp only [Ch,yd,jv,Bool.false_eq_true,if_false]
  · have d:decide ((l.length:Int) > 40)=true:=by simp; omega
    simp [d,h]
theorem nr {F:Nat} {l:List al} {c:Int} (hb:l.length<1000000) (hF:l.length<F):ux F ⟨l⟩ c=some (match cv l c with | some k=>(k:Int) | .none=>-1):=by
 unfold ux
 have e:∀ (s:List al) (i:Nat),scan (fun i (x:al)=>if decide (x.ID=c)=true then some (i:Int) else .none) (-1) i s=(match (cv s c).map (·+i) with | some k=>(k:Int) | .none=>-1):=by
  intro s
  induction s with
  | nil=>intro i; rfl
  | cons x s ih =>
   intro i
   unfold scan cv
   rw [List.findIdx?_cons]
   by_cases hc:x.ID=c
   ·simp [hc]
   ·have:(x.ID == c)=false:=by simp [hc]
    simp only [hc,decide_false,Bool.false_eq_true,if_false,this]
    rw [ih (i+1)]
    unfold cv
    cases List.findIdx? (fun b=>b.ID == c) s with
    | none=>rfl
    | some k=>simp only [Option.map_some]; congr 1; omega
 have e0:=e l 0
 have:(cv l c).map (·+0)=cv l c:=by cases cv l c <;> rfl
 rw [this] at e0
 rw [← e0]
 refine e7 _ _ hb (fun n i x hx hi=>?_) (fun n=>?_) hF
 ·simp only [DB,yg,jM hx,if_true,jy hx,Option.bind_some,jB hi,uj]
  by_cases hc:x.ID=c <;> simp [hc]
 ·simp only [DB,yg,jv,Bool.false_eq_true,if_false]
def kp (l:List al) (r:al):List al:=l.take (jL l r.ID)++[r]++(l.drop (jL l r.ID)).filter fun x=>decide (x.ID ≠ r.ID)
theorem Hg {F:Nat} {l:List al} {r:al} (hs:jc l) (hb:l.length<1000000) (hF:l.length<F):uy F ⟨l⟩ r=some ⟨kp l r⟩:=by
 unfold uy
 have key : ∀ (s p : List al) (n : Nat) (out : List al) (b : Bool), l = p ++ s → s.length < n → (out.length ≤ p.length + 1 ∧ (b = false → out.length ≤ p.length)) → (b = false → ∀ x ∈ p, x.ID < r.ID) → (b = true → ∀ x ∈ s, r.ID ≤ x.ID) →
   yU ⟨l⟩ r n b (p.length:Int) out=some ⟨if b=true then out++s.filter (fun x=>decide (x.ID ≠ r.ID)) else out++kp s r⟩:=by
  intro s
  induction s with
  | nil=>intro p n out b hp hn ho h1 h2; cases n with
   | zero=>omega
   | succ n =>
    have:l=p:=by simpa using hp
    subst this
    simp only [yU,yo,Int.lt_irrefl,decide_false,Bool.false_eq_true,if_false]
    cases b with
    | true=>simp
    | false =>
     simp only [Bool.not_false,if_true,Bool.false_eq_true,if_false]
     rw [c6 (by simp; omega)]
     simp [kp,jL]
  | cons x s ih=>intro p n out b hp hn ho h1 h2; cases n with
   | zero=>omega
   | succ n =>
    have hlen:p.length<1000000:=by rw [hp] at hb; simp at hb; omega
    have d1:decide ((p.length:Int)<(l.length:Int))=true:=by rw [hp]; exact HC p x s
    have i1:idx l (p.length:Int)=some x:=by rw [hp]; exact jz p x s
    have UC:∀ y ∈ s,x.ID<y.ID:=fun y hy=>by
     have:=hs; unfold jc at this; rw [hp,List.pairwise_append,List.pairwise_cons] at this
     exact this.2.1.1 y hy
    have fin : ∀ (b' : Bool) (oP : List al), (oP.length ≤ p.length + 1 ∧ (b' = false → oP.length ≤ p.length)) → (b' = false → oP = out ∧ x.ID < r.ID) → (b' = true → r.ID ≤ x.ID ∧ ((b = true ∧ oP = out) ∨ (b = false ∧ oP = out ++ [r]))) →
      vh (yU ⟨l⟩ r n) ⟨l⟩ r (p.length:Int) b' oP=some ⟨if b=true then out++(x :: s).filter (fun x=>decide (x.ID ≠ r.ID)) else out++kp (x :: s) r⟩:=fun b' oP iL c1 c2=>by
     unfold vh
     simp only [i1,Option.bind_some]
     rw [LF p x (by omega)]
     have e3:∀ q,(if b'=true then (oP++q)++s.filter (fun x=>decide (x.ID ≠ r.ID)) else (oP++q)++kp s r)=(if b'=true then oP++(q++s.filter (fun x=>decide (x.ID ≠ r.ID))) else oP++(q++kp s r)):=fun q=>by
      cases b' <;> simp
     have ox:∀ q,q=(if x.ID ≠ r.ID then [x] else [])→(if b'=true then oP++(q++s.filter (fun x=>decide (x.ID ≠ r.ID))) else oP++(q++kp s r))=(if b=true then out++(x :: s).filter (fun x=>decide (x.ID ≠ r.ID)) else out++kp (x :: s) r):=fun q hq=>by
      cases b' with
      | false =>
       obtain ⟨e1,e2⟩:=c1 rfl
       subst e1
       have hb:b=false:=by
        cases b with
        | false=>rfl
        | true=>have:=h2 rfl x (by simp); omega
       subst hb
       have ew:x.ID ≠ r.ID:=by omega
       rw [hq,if_pos ew]
       simp only [Bool.false_eq_true,if_false]
       unfold kp jL
       rw [List.takeWhile_cons_of_pos (by simpa using e2)]
       simp
      | true =>
       obtain ⟨e1,e2⟩:=c2 rfl
       have Nb:(x :: s).filter (fun x=>decide (x.ID ≠ r.ID))=q++s.filter (fun x=>decide (x.ID ≠ r.ID)):=by
        rw [hq,List.filter_cons]
        by_cases hx:x.ID=r.ID <;> simp [hx]
       rcases e2 with ⟨hb,rp⟩ | ⟨hb,rp⟩
       ·subst hb; subst rp; simp only [if_true]; rw [Nb]
       ·subst hb; subst rp
        simp only [if_true,Bool.false_eq_true,if_false]
        have:kp (x :: s) r=[r]++(x :: s).filter (fun x=>decide (x.ID ≠ r.ID)):=by
         unfold kp jL
         rw [List.takeWhile_cons_of_neg (by simp; omega)]
         simp
        rw [this,Nb]; simp
     by_cases ew:x.ID=r.ID
     ·have HL:(x.ID != r.ID)=false:=by simp [ew]
      simp only [HL,Bool.false_eq_true,if_false]
      have:=ih (p++[x]) n oP b' (by rw [hp]; simp) (by simpa using hn) ⟨by simp; omega,fun il=>by have:=iL.2 il; simp; omega⟩ (fun il y hy=>by
       rcases List.mem_append.1 hy with hy | hy
       ·refine h1 ?_ y hy
        cases b with
        | false=>rfl
        | true=>have:=h2 rfl x (by simp); have:=(c1 il).2; omega
       ·rw [List.mem_singleton] at hy; subst hy; exact (c1 il).2) (fun il y hy=>by have:=(c2 il).1; have:=UC y hy; omega)
      rw [this,← ox [] (by simp [ew])]
      simp
     ·have HL:(x.ID != r.ID)=true:=by simp [ew]
      simp only [HL,if_true]
      rw [c6 (by simp; omega),Option.bind_some]
      have:=ih (p++[x]) n (oP++[x]) b' (by rw [hp]; simp) (by simpa using hn) ⟨by simp; omega,fun il=>by have:=iL.2 il; simp; omega⟩ (fun il y hy=>by
       rcases List.mem_append.1 hy with hy | hy
       ·refine h1 ?_ y hy
        cases b with
        | false=>rfl
        | true=>have:=h2 rfl x (by simp); have:=(c1 il).2; omega
       ·rw [List.mem_singleton] at hy; subst hy; exact (c1 il).2) (fun il y hy=>by have:=(c2 il).1; have:=UC y hy; omega)
      rw [this,e3,ox [x] (by simp [ew])]
    simp only [yU,yo,d1,if_true]
    cases b with
    | true =>
     simp only [Bool.not_true,Bool.false_eq_true,if_false,Option.bind_some]
     exact fin true out ⟨ho.1,fun h=>by cases h⟩ (fun h=>by cases h) (fun _=>⟨h2 rfl x (by simp),.inl ⟨rfl,rfl⟩⟩)
    | false =>
     simp only [Bool.not_false,if_true,i1,Option.bind_some]
     by_cases Nf:x.ID ≥ r.ID
     ·simp only [Nf,decide_true,if_true]
      rw [c6 (by simp; omega),Option.bind_some]
      exact fin true (out++[r]) ⟨by simp; have:=ho.2 rfl; omega,fun h=>by cases h⟩ (fun h=>by cases h) (fun _=>⟨Nf,.inr ⟨rfl,rfl⟩⟩)
     ·simp only [Nf,decide_false,Bool.false_eq_true,if_false]
      exact fin false out ⟨ho.1,fun _=>ho.2 rfl⟩ (fun _=>⟨rfl,by omega⟩) (fun h=>by cases h)
 have:=key l [] F [] false rfl hF (by simp) (by simp) (by simp)
 simpa using this
theorem DV {l:List al} (hs:jc l) {k:Nat} (hk:k<l.length) {r:al} (hp:cv l r.ID=some k):kp l r=l.set k r:=by
 unfold kp
 rw [← tu hs hp]
 obtain ⟨_,bE⟩:=dE hp
 rw [List.drop_eq_getElem_cons hk,List.filter_cons]
 have h1:decide (l[k].ID ≠ r.ID)=false:=by simp [bE]
 have h2:(l.drop (k+1)).filter (fun x=>decide (x.ID ≠ r.ID))=l.drop (k+1):=by
  rw [List.filter_eq_self]
  intro x hx
  obtain ⟨q,hq,rfl⟩:=List.getElem_of_mem hx
  simp only [List.length_drop] at hq
  rw [List.getElem_drop]
  have:=List.pairwise_iff_getElem.1 hs k (k+1+q) hk (by omega) (by omega)
  simp; omega
 rw [h1,h2,List.set_eq_take_append_cons_drop,if_pos hk]
 simp
theorem DU {l:List al} {r:al} (hp:cv l r.ID=.none):kp l r=l.take (jL l r.ID)++[r]++l.drop (jL l r.ID):=by
 unfold kp
 congr 1
 rw [List.filter_eq_self]
 intro x hx
 simpa using qL hp x (List.mem_of_mem_drop hx)
def kV (c:Int × List al):aK × Int:=if c.1=0 then (⟨c.2⟩,0) else (⟨[]⟩,c.1)
theorem GN {F:Nat} {l:List al} {e:ax} (h:ic l) (hF:400<F):yJ F ⟨l⟩ e.Item=some (kV (kR l e)):=by
 have hlen:=h.len
 unfold yJ kR
 rw [tF (by omega),nr (by omega) (by omega)]
 simp only [Option.bind_some]
 by_cases h1:je e.Item=0
 ·simp only [h1,bne_self_eq_false,Bool.false_eq_true,if_false,ne_eq,not_true_eq_false]
  by_cases h2:e.Item.Version=1
  ·simp only [h2,bne_self_eq_false,Bool.false_eq_true,if_false,not_true_eq_false]
   cases hp:cv l e.Item.ID with
   | some k =>
    have d:decide ((k:Int) ≥ 0)=true:=by simp
    simp [d,kV]
   | none =>
    have d:decide ((-1:Int) ≥ 0)=false:=by simp
    simp only [d,Bool.false_eq_true,if_false,Option.isSome_none]
    by_cases h4:40≤l.length
    ·have d:((l.length:Int) == 40)=true:=by rw [beq_iff_eq]; omega
     simp only [d,h4,if_true]; rfl
    ·have d:((l.length:Int) == 40)=false:=by rw [beq_eq_false_iff_ne]; omega
     simp only [d,h4,if_false,Bool.false_eq_true]
     rw [Hg h.sort (by omega) (by omega)]
     simp only [Option.bind_some,kV,if_true]
     rw [DU hp]; rfl
  ·have d:(e.Item.Version != 1)=true:=by simp [h2]
   simp only [d,h2,if_true,not_false_eq_true]; rfl
 ·have d:(je e.Item != 0)=true:=by simp [h1]
  simp [d,h1,kV]
theorem nE {F:Nat} {l:List al} (h:ic l) (hF:400<F) {j:Nat} (hj:j<l.length) {vs:List ai} {ap:List Bool} {us:List ay} {w:Bool} {c:Int} (hc:l[j].ID=c) (hp:cv l c=some j):uy F ⟨l⟩ ⟨l[j].ID,vs,ap,us,w⟩=some ⟨l.set j ⟨l[j].ID,vs,ap,us,w⟩⟩:=by
 rw [Hg h.sort (by have:=h.len; omega) (by have:=h.len; omega),DV h.sort hj (by show cv l l[j].ID=_; rw [hc]; exact hp)]
theorem DH {F:Nat} {l:List al} {e:ax} (h:ic l) (hF:400<F) (hk:e.Kind=2):yD F ⟨l⟩ e.Item=some (kV (cY l e)):=by
 have hlen:=h.len
 unfold yD cY
 rw [tF (by omega),nr (by omega) (by omega)]
 simp only [Option.bind_some,hk,show ¬ ((2:Int)=1) by omega,if_false,if_true]
 by_cases h1:je e.Item=0
 ·simp only [h1,bne_self_eq_false,Bool.false_eq_true,if_false,ne_eq,not_true_eq_false]
  unfold lh
  simp only [G4,hk,if_true]
  cases hp:cv l e.Item.ID with
  | none=>rfl
  | some j =>
   obtain ⟨iC,bE⟩:=dE hp
   have hr:=h.ok l[j] (List.getElem_mem iC)
   have d:decide ((j:Int)<0)=false:=by simp
   simp only [d,Bool.false_eq_true,if_false,dj iC,List.getElem?_eq_getElem iC,Option.bind_some,j8,hk,if_true]
   have hw:i64 ((l[j].ab.length:Int)+1)=(l[j].ab.length:Int)+1:=by have:=hr.n8; rw [cO (by omega) (by omega)]
   rw [hw]
   by_cases h2:l[j].ae=true ∨ e.Item.Version ≠ (l[j].ab.length:Int)+1
   ·have d:(l[j].ae || e.Item.Version != (l[j].ab.length:Int)+1)=true:=by simpa using h2
    simp only [d,if_true,h2,show ¬ ((8:Int)=0) by omega,if_false]; rfl
   ·have d:(l[j].ae || e.Item.Version != (l[j].ab.length:Int)+1)=false:=by simpa using h2
    simp only [d,Bool.false_eq_true,if_false,h2]
    have q1:=hr.n8; have q2:=hr.ap
    rw [c6 (by simp; omega),Option.bind_some,c6 (by simp; omega),Option.bind_some,c6 (by simp; omega),Option.bind_some,c6 (by simp; omega),Option.bind_some]
    rw [nE h hF iC bE hp]
    simp [kV]
 ·have d:(je e.Item != 0)=true:=by simp [h1]
  simp [d,h1,kV]
theorem Eu {l:List al} {e:ax} {j:Nat} (iC:j<l.length):(if decide (((j:Nat):Int)<0)=true then some true else if decide (e.Ref.Version<1)=true then some true else (idx l (j:Int)).bind fun x6=>some (decide (e.Ref.Version > (x6.ab.length:Int))))=some (decide (og e l[j])):=by
 have d:decide ((j:Int)<0)=false:=by simp
 simp only [d,Bool.false_eq_true,if_false,dj iC,Option.bind_some,wG]
 congr 1
 refine IS ?_
 rw [decide_eq_true_eq]
 unfold og
 simp only [Bool.or_eq_true,decide_eq_true_eq]
theorem A9 {F:Nat} {l:List al} {e:ax} (h:ic l) (hF:400<F) (hk:e.Kind=3):yz F ⟨l⟩ e.Ref=some (kV (cY l e)):=by
 have hlen:=h.len
 unfold yz cY lh
 rw [nr (by omega) (by omega)]
 simp only [Option.bind_some,hk,G4,show ¬ ((3:Int)=1) by omega,show ¬ ((3:Int)=2) by omega,if_false,true_or,if_true]
 cases hp:cv l e.Ref.ID with
 | none=>simp [kV]
 | some j =>
  obtain ⟨iC,bE⟩:=dE hp
  have hr:=h.ok l[j] (List.getElem_mem iC)
  simp only [Eu iC,Option.bind_some,List.getElem?_eq_getElem iC,j8,hk,show ¬ ((3:Int)=2) by omega,if_false,if_true]
  by_cases hb:og e l[j]
  ·simp only [hb,decide_true,if_true,show ¬ ((4:Int)=0) by omega,if_false]; rfl
  ·obtain ⟨q1,q2⟩:=Bv hr hb
   simp only [hb,decide_false,Bool.false_eq_true,if_false,dj iC,Option.bind_some]
   by_cases hw:l[j].ae=true
   ·simp only [hw,if_true,show ¬ ((8:Int)=0) by omega,if_false]; rfl
   ·simp only [hw,if_false,q1,Option.bind_some,Bool.false_eq_true]
    by_cases ha:rf e l[j]=true
    ·simp only [ha,if_true,show ¬ ((5:Int)=0) by omega,if_false]; rfl
    ·have q3:=hr.n8; have q4:=hr.ap
     simp only [ha,if_false,Bool.false_eq_true]
     rw [c6 (by simp; omega),Option.bind_some,List.nil_append,q1,Option.bind_some,nE h hF iC bE hp,q2]
     simp [kV]
theorem L3 {F:Nat} {l:List al} {e:ax} (h:ic l) (hF:400<F) (hk:e.Kind=4):lq F ⟨l⟩ e.Ref e.Form e.ar.Time=some (kV (cY l e)):=by
 have hlen:=h.len
 unfold lq cY lh
 rw [nr (by omega) (by omega)]
 simp only [Option.bind_some,hk,G4,show ¬ ((4:Int)=1) by omega,show ¬ ((4:Int)=2) by omega,show ¬ ((4:Int)=3) by omega,if_false,true_or,or_true,if_true]
 cases hp:cv l e.Ref.ID with
 | none=>simp [kV]
 | some j =>
  obtain ⟨iC,bE⟩:=dE hp
  have hr:=h.ok l[j] (List.getElem_mem iC)
  simp only [Eu iC,Option.bind_some,List.getElem?_eq_getElem iC,j8,hk,show ¬ ((4:Int)=2) by omega,show ¬ ((4:Int)=3) by omega,if_false,if_true]
  by_cases hb:og e l[j]
  ·simp only [hb,decide_true,if_true,show ¬ ((4:Int)=0) by omega,if_false]; rfl
  ·obtain ⟨q1,q2⟩:=Bv hr hb
   have hu:=hr.us
   simp only [hb,decide_false,Bool.false_eq_true,if_false,dj iC,Option.bind_some,q1,wG]
   by_cases hw:l[j].ae=true ∨ rf e l[j]=false
   ·have d:(l[j].ae || !(rf e l[j]))=true:=by simpa using hw
    simp only [d,hw,if_true,show ¬ ((8:Int)=0) by omega,if_false]; rfl
   ·have d:(l[j].ae || !(rf e l[j]))=false:=by simpa using hw
    simp only [d,hw,if_false,Bool.false_eq_true]
    have l1:=j3 (a:=l[j].Uses) (L:=tB F ⟨l⟩ e.Ref e.Form e.ar.Time l[j]) (F:=F) (fun _ u=>if (!(u.Form == e.Form))=true then .none else some ((aK.mk []:aK),(5:Int))) (some (kV (if 300≤l[j].Uses.length then (3,l) else (0,l.set j ⟨l[j].ID,l[j].ab,l[j].ah,l[j].Uses++[⟨e.Ref.Version,e.Form,e.ar.Time⟩],l[j].ae⟩)))) (by omega) (fun n i u Fm hi=>?_) (fun n=>?_) (by omega)
    ·rw [l1,kl (fun _ (u:ay)=>!(u.Form == e.Form)),pd]
     have ea:(l[j].Uses.all fun u=>!(u.Form == e.Form))=!(l[j].Uses.any fun u=>u.Form == e.Form):=by
      rw [List.not_any_eq_all_not]
     rw [ea]
     cases (l[j].Uses.any fun u=>u.Form == e.Form) with
     | true=>simp [kV]
     | false =>
      simp only [Bool.not_false,if_true,Bool.false_eq_true,if_false]
      by_cases h3:300≤l[j].Uses.length
      ·simp [h3]
      ·simp [h3]
    ·simp only [tB,yv,jM Fm,if_true,jy Fm,Option.bind_some,jB hi]
     cases (u.Form == e.Form) <;> simp
    ·simp only [tB,yv,jv,Bool.false_eq_true,if_false]
     by_cases h3:300≤l[j].Uses.length
     ·have d3:((l[j].Uses.length:Int) == 300)=true:=by rw [beq_iff_eq]; omega
      simp only [d3,h3,if_true]; rfl
     ·have d3:((l[j].Uses.length:Int) == 300)=false:=by rw [beq_eq_false_iff_ne]; omega
      simp only [d3,h3,if_false,Bool.false_eq_true]
      rw [c6 (by simp; omega),Option.bind_some,c6 (by simp; omega),Option.bind_some,nE h hF iC bE hp]
      simp [kV]
theorem qQ {F:Nat} {l:List al} {e:ax} (h:ic l) (hF:400<F) (hk:e.Kind=5 ∨ e.Kind=6):DD F ⟨l⟩ e.Ref.ID (decide (e.Kind=5))=some (kV (cY l e)):=by
 have n1:¬ e.Kind=1:=by omega
 have n2:¬ e.Kind=2:=by omega
 have n3:¬ e.Kind=3:=by omega
 have n4:¬ e.Kind=4:=by omega
 have hlen:=h.len
 unfold DD cY lh
 rw [nr (by omega) (by omega)]
 simp only [Option.bind_some,n1,n2,n3,n4,hk,G4,if_false,false_or,if_true]
 cases hp:cv l e.Ref.ID with
 | none=>simp [kV]
 | some j =>
  obtain ⟨iC,bE⟩:=dE hp
  have d:decide ((j:Int)<0)=false:=by simp
  simp only [d,Bool.false_eq_true,if_false,dj iC,List.getElem?_eq_getElem iC,Option.bind_some,j8,n2,n3,n4,beq_iff_eq]
  by_cases hw:l[j].ae=decide (e.Kind=5)
  ·simp only [hw,if_true,show ¬ ((8:Int)=0) by omega,if_false]; rfl
  ·simp only [hw,if_false,if_true]
   rw [nE h hF iC bE hp]
   simp [kV]
theorem GL {F:Nat} {l:List al} {e:ax} (hF:400<F):yH F ⟨l⟩ e=some (⟨(sj l e).1⟩,(sj l e).2):=by
 unfold yH
 rw [GU hF]
 simp only [Option.bind_some]
 cases hv:jD l with
 | false=>simp [sj,hv]
 | true =>
  have h:=o2.1 hv
  rw [sk h]
  simp only [Bool.not_true,Bool.false_eq_true,if_false,beq_iff_eq]
  have fin:∀ c:Int × List al,some ((kV c).1,(kV c).2)=some (aK.mk (if c.1=0 then (c.2,(0:Int)) else ([],c.1)).1,(if c.1=0 then (c.2,(0:Int)) else ([],c.1)).2):=fun c=>by
   unfold kV
   by_cases h0:c.1=0 <;> simp [h0]
  by_cases h1:e.Kind=1
  ·have e1:cY l e=kR l e:=by unfold cY; rw [if_pos h1]
   simp only [h1,if_true,GN h hF,Option.bind_some]
   rw [e1]; exact fin _
  ·by_cases h2:e.Kind=2
   ·simp only [h2,show ¬ ((2:Int)=1) by omega,if_false,if_true,DH h hF h2,Option.bind_some]
    exact fin _
   ·by_cases h3:e.Kind=3
    ·simp only [h3,show ¬ ((3:Int)=1) by omega,show ¬ ((3:Int)=2) by omega,if_false,if_true,A9 h hF h3,Option.bind_some]
     exact fin _
    ·by_cases h4:e.Kind=4
     ·simp only [h4,show ¬ ((4:Int)=1) by omega,show ¬ ((4:Int)=2) by omega,show ¬ ((4:Int)=3) by omega,if_false,if_true,L3 h hF h4,Option.bind_some]
      exact fin _
     ·by_cases h5:e.Kind=5
      ·have:=qQ h hF (.inl h5)
       rw [show decide (e.Kind=5)=true by simp [h5]] at this
       simp only [h1,h2,h3,h4,h5,if_false,if_true,this,Option.bind_some,show ¬ ((5:Int)=1) by omega,show ¬ ((5:Int)=2) by omega,show ¬ ((5:Int)=3) by omega,show ¬ ((5:Int)=4) by omega]
       exact fin _
      ·by_cases h6:e.Kind=6
       ·have:=qQ h hF (.inr h6)
        rw [show decide (e.Kind=5)=false by simp [h5]] at this
        simp only [h6,if_false,if_true,this,Option.bind_some,show ¬ ((6:Int)=1) by omega,show ¬ ((6:Int)=2) by omega,show ¬ ((6:Int)=3) by omega,show ¬ ((6:Int)=4) by omega,show ¬ ((6:Int)=5) by omega]
        exact fin _
       ·have e1:cY l e=(2,l):=by unfold cY; simp [h1,h2,h3,h4,h5,h6]
        simp only [h1,h2,h3,h4,h5,h6,if_false,e1]
        simp
theorem Bb {F:Nat} {u:Int} {c:List ax} {z:Int} (hF:400<F) (hb:c.length<1000000) (hs:c.Pairwise fun a b=>a.ar.Time≤b.ar.Time):∀ (s p:List ax) (n:Nat) (l:List al) (r:List cj),c=p++s→s.length<n→ic l→r.length≤p.length→A8 F u (c,z) n (p.length:Int) l r=some (⟨(jE (kC u s) l r).1⟩,(jE (kC u s) l r).2,0):=by
 intro s
 induction s with
 | nil=>intro p n l r hp hn hv hr; cases n with
  | zero=>omega
  | succ n =>
   have:c=p:=by simpa using hp
   subst this
   simp only [A8,yn,Int.lt_irrefl,decide_false,Bool.false_eq_true,if_false,kC,List.takeWhile_nil,jE]
 | cons e s ih=>intro p n l r hp hn hv hr; cases n with
  | zero=>omega
  | succ n =>
   have hlen:p.length<1000000:=by rw [hp] at hb; simp at hb; omega
   have d1:decide ((p.length:Int)<(c.length:Int))=true:=by rw [hp]; exact HC p e s
   have i1:idx c (p.length:Int)=some e:=by rw [hp]; exact jz p e s
   have rq:=hs
   rw [hp] at rq
   have Sk:=(List.pairwise_append.1 rq).2.1
   simp only [A8,yn,d1,if_true,i1,Option.bind_some]
   by_cases hu:e.ar.Time≤u
   ·have d2:decide (e.ar.Time > u)=false:=by simp; omega
    have hw:kC u (e :: s)=e :: kC u s:=by unfold kC; rw [List.takeWhile_cons_of_pos (by simpa using hu)]
    simp only [d2,Bool.false_eq_true,if_false,GL hF,Option.bind_some,sk hv,hw,jE]
    rw [LF p e (by omega)]
    by_cases h0:(cY l e).1=0
    ·simp only [h0,if_true,bne_self_eq_false,Bool.false_eq_true,if_false]
     exact ih (p++[e]) n _ r (by rw [hp]; simp) (by simpa using hn) (ql hv) (by simp; omega)
    ·have HL:((cY l e).1 != 0)=true:=by simp [h0]
     simp only [h0,if_false,HL,if_true]
     rw [c6 (by simp; omega),Option.bind_some,Bi h0]
     exact ih (p++[e]) n l _ (by rw [hp]; simp) (by simpa using hn) hv (by simp; omega)
   ·have d2:decide (e.ar.Time > u)=true:=by simp; omega
    have hw:kC u (e :: s)=[]:=by unfold kC; rw [List.takeWhile_cons_of_neg (by simpa using hu)]
    have qJ:kC u s=[]:=by
     unfold kC
     cases s with
     | nil=>rfl
     | cons x s' =>
      have:=(List.pairwise_cons.1 Sk).1 x (by simp)
      rw [List.takeWhile_cons_of_neg (by simp; omega)]
    simp only [d2,if_true,hw]
    rw [LF p e (by omega),ih (p++[e]) n l r (by rw [hp]; simp) (by simpa using hn) hv (by simp; omega),qJ]
theorem z7 (l:List ax):(Hk (fun x:ax=>x.ar) l).Pairwise fun a b=>a.ar.Time≤b.ar.Time:=(EF (fun x:ax=>x.ar) l).sorted.imp fun h=>by rw [ig] at h; omega
theorem Ir {F:Nat} (hF:400<F) {ev:List ax} {u:Int} (hc:qw F ev) (hb:ev.length<1000000) (RI:ev.length<F):yN F ev u=some (⟨(lS ev u).1⟩,(lS ev u).2.1,(lS ev u).2.2):=by
 unfold yN lS
 rw [vH hc hb RI]
 simp only [Option.bind_some]
 have hle:=sn (fun x:ax=>x.ar) ev
 have hs:(gK (fun x:ax=>x.ar) ev).1.Pairwise fun a b=>a.ar.Time≤b.ar.Time:=by
  unfold gK
  split
  ·simp
  ·exact z7 ev
 generalize gK (fun x:ax=>x.ar) ev=c at hle hs
 by_cases h0:c.2=0
 ·simp only [h0,bne_self_eq_false,Bool.false_eq_true,if_false,ne_eq,not_true_eq_false]
  have:=Bb (c:=c.1) (u:=u) (z:=c.2) hF (by omega) hs c.1 [] F [] [] rfl (by omega) pU (by simp)
  exact this
 ·have:(c.2 != 0)=true:=by simp [h0]
  simp [this,h0]
end Go.Sh
namespace Go.Sh
open Go.L
theorem AS {l:List al} {c:Int}:(match cv l c with | some k=>l[k]? | .none=>.none)=l.find? fun r=>decide (r.ID=c):=by
 unfold cv
 have e:(fun b:al=>b.ID == c)=fun b=>decide (b.ID=c):=by funext b; exact uj _ _
 rw [e]
 induction l with
 | nil=>rfl
 | cons x l ih =>
  rw [List.findIdx?_cons,List.find?_cons]
  cases hx:decide (x.ID=c) with
  | true=>simp
  | false =>
   simp only [Bool.false_eq_true,if_false]
   rw [← ih]
   cases List.findIdx? (fun b:al=>decide (b.ID=c)) l <;> simp
theorem Ck {F:Nat} {l:List al} {c:Int} (h:ia F l):vp F ⟨l⟩ c=some (qC l c):=by
 unfold vp qC
 rw [nr h.l1 h.l2,← AS]
 cases hp:cv l c with
 | none=>simp; rfl
 | some k =>
  obtain ⟨hk,_⟩:=dE hp
  have d:decide ((k:Int)<0)=false:=by simp
  simp only [Option.bind_some,d,Bool.false_eq_true,if_false,dj hk,List.getElem?_eq_getElem hk]
theorem tP {F:Nat} {l:List al} {r:bG} (h:ia F l):vf F ⟨l⟩ r=some (Br l r.ID r.Version):=by
 unfold vf Br
 rw [Ck h]
 simp only [Option.bind_some,qC]
 cases hf:l.find? (fun x=>decide (x.ID=r.ID)) with
 | none=>simp; rfl
 | some x =>
  have hx:=List.mem_of_find?_eq_some hf
  have hr:=h.r x hx
  simp only [Bool.not_true,Bool.false_or]
  by_cases hv:r.Version<1 ∨ r.Version > x.ab.length
  ·have d:(decide (r.Version<1) || decide (r.Version > (x.ab.length:Int)))=true:=by simpa using hv
   simp only [d,if_true,hv]; rfl
  ·have d:(decide (r.Version<1) || decide (r.Version > (x.ab.length:Int)))=false:=by simpa using hv
   have hl:=hr.vl.1
   have hw:i64 (r.Version - 1)=r.Version - 1:=by rw [cO (by omega) (by omega)]
   have lB:(r.Version - 1).toNat<x.ab.length:=by omega
   have BO:idx x.ab (r.Version - 1)=some x.ab[(r.Version - 1).toNat]:=by rw [gF]; exact ⟨by omega,by simp [lB]⟩
   simp only [d,Bool.false_eq_true,if_false,hv,hw,BO,Option.bind_some]
   rw [List.getD_eq_getElem?_getD,List.getElem?_eq_getElem lB]; rfl
theorem ia.set {F:Nat} {l:List al} (h:ia F l) {r:al} (hr:uH F r):ia F (l.set 0 r) :=
 ⟨by simpa using h.l1,by simpa using h.l2,fun x hx=>(List.mem_or_eq_of_mem_set hx).elim (h.r x) (fun he=>he ▸ hr)⟩
theorem J7 {F:Nat} {t:aP} (h:Tp t) (n:Int) (hn:n≤1000000) (hF:2000≤F):cP (Mi F t n) fun r=>Tp r.2∧ia F r.1.aa:=by
 unfold Mi
 obtain ⟨l,t1,a1,a2,a3,a4⟩:=vD (F:=F) h 14 0 (by omega) (by omega) (by omega)
 rw [show (14:Int)=((14:Nat):Int) from rfl,a1]; simp only [Option.bind_some]
 rw [Ir (by omega) (a4.short (by omega)) (by omega) (by omega)]; simp only [Option.bind_some]
 have hV:=CG (ev:=l) (u:=1000000)
 have hS:=hV.sh (F:=F) (by omega)
 generalize (lS l 1000000).1=b at hV hS
 have w1:cP (if (decide (n > 0))=true then (oc t1 n).bind fun r8=>if r8.1=true then some ((decide ((b.length:Int) > 0)),r8.2.L,r8.2.At) else some (false,r8.2.L,r8.2.At) else some (false,t1.L,t1.At)) fun w=>Tp (aP.mk w.2.1 w.2.2)∧(w.1=true→0<b.length):=by
  refine cP.ite (fun _=>?_) (fun _=>cP.pure ⟨a2,fun h=>by cases h⟩)
  refine (Il a2 n (by omega)).bind fun r hr=>?_
  exact cP.ite (fun _=>cP.pure ⟨hr.mk',fun h=>by simpa using h⟩) (fun _=>cP.pure ⟨hr.mk',fun h=>by cases h⟩)
 refine w1.bind fun w hw=>?_
 refine cP.ite (fun NX=>?_) (fun _=>cP.pure ⟨hw.1,hS⟩)
 have hb:=hw.2 NX
 have hlen:=hV.len
 refine cP.idx (by omega) (by simpa using hb) fun x hx Je=>?_
 have hR:=hS.r x hx
 have gM:=hV.ok x hx
 have h8:=gM.n8; have Kg:=gM.ap; have Fq:=gM.us
 refine (jn hw.1 4 (by omega)).bind fun dz Mn=>?_
 refine cP.ite (fun _=>?_) (fun _=>?_)
 ·refine cP.app (by simp; omega) ?_
  refine cP.app (by simp; omega) ?_
  refine cP.idx (by omega) (by simpa using hb) fun y hy H4=>?_
  exact cP.pure ⟨Mn.1,hS.set ⟨hR.vl,hR.v,by simp; omega,hR.u⟩⟩
 ·refine cP.ite (fun _=>?_) (fun _=>?_)
  ·refine (jn Mn.1 5 (by omega)).bind fun jU Ve=>?_
   refine cP.app (by simp; omega) ?_
   refine cP.idx (by omega) (by simpa using hb) fun y hy H4=>?_
   exact cP.pure ⟨Ve.1,hS.set ⟨hR.vl,hR.v,hR.a,hR.u⟩⟩
  ·refine cP.ite (fun _=>?_) (fun _=>?_)
   ·refine (iS Mn.1 0 9 (by omega) (by omega) (by omega)).bind fun jr Vf=>?_
    refine cP.app (by simp; omega) ?_
    refine cP.app (by simp; omega) ?_
    refine cP.idx (by omega) (by simpa using hb) fun y hy H4=>?_
    exact cP.pure ⟨Vf.1,hS.set ⟨hR.vl,hR.v,hR.a,by simp; omega⟩⟩
   ·refine cP.app (by simp; omega) ?_
    refine cP.app (by simp; omega) ?_
    refine cP.idx (by omega) (by simp) fun y hy H4=>?_
    refine cP.pure ⟨Mn.1,ia.set ⟨by simp; omega,by simp; omega,fun z hz=>?_⟩ hR⟩
    rcases List.mem_append.1 (by simpa using hz:z ∈ b++[x]) with hz | hz
    ·exact hS.r z hz
    ·rw [List.mem_singleton.1 hz]; exact hR
theorem ia.find {F:Nat} {l:List al} (h:ia F l) (hF:0<F) (c:Int):uH F (qC l c).1:=by
 unfold qC
 cases hf:l.find? (fun r=>decide (r.ID=c)) with
 | none=>exact ⟨by simp [DW]; omega,by simp [DW],by simp [DW]; omega,by simp [DW]; omega⟩
 | some x=>exact h.r x (List.mem_of_find?_eq_some hf)
theorem ia.UW {F:Nat} {l:List al} (h:ia F l) (hF:0<F) (c v:Int):Cu F (Br l c v).1:=by
 have hz:Cu F qZ:=by unfold Cu qZ; simp; omega
 unfold Br
 cases hf:l.find? (fun r=>decide (r.ID=c)) with
 | none=>exact hz
 | some x =>
  have hr:=h.r x (List.mem_of_find?_eq_some hf)
  simp only
  split
  ·exact hz
  ·rename_i hv
   have lB:(v - 1).toNat<x.ab.length:=by omega
   rw [List.getD_eq_getElem?_getD,List.getElem?_eq_getElem lB]
   exact hr.v _ (List.getElem_mem lB)
theorem Hs (t:List Int) (id version:Int):∃ F,B7 F t id version=some true:=by
 refine ⟨2000,?_⟩
 obtain ⟨t0,a1,a2⟩:=Pp t
 obtain ⟨⟨⟨l⟩,t2⟩,c1,c2,hS⟩:=J7 (F:=2000) a2 6 (by omega) (by omega)
 obtain ⟨k,d1,d2,d3,_⟩:=EB id 6 (by omega)
 obtain ⟨v,e1,e2,e3,_⟩:=EB version 5 (by omega)
 simp only at hS
 unfold B7
 rw [a1]; simp only [Option.bind_some]
 rw [c1]; simp only [Option.bind_some]
 rw [d1]; simp only [Option.bind_some]
 rw [e1]; simp only [Option.bind_some]
 rw [Kb hS,Ck hS]; simp only [Option.bind_some]
 rw [tY hS,tP hS]; simp only [Option.bind_some]
 rw [tY hS,tP hS]; simp only [Option.bind_some]
 rw [wH (hS.find (by omega) _),kK (hS.UW (by omega) _ _),kK (hS.UW (by omega) _ _),HA (Nat.le_refl 2000)]
 simp
end Go.Sh
