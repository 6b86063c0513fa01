import Derived.Test.YtmollikhdbaikaaGreatZSh
set_option linter.unusedVariables false
set_option linter.unusedSimpArgs false
namespace Go.Sh
open Go.L
theorem cX {n:Int} (h1:-9223372036854775808≤n) (h2:n≤9223372036854775807):i64 n=n:=by
 show IntKind.i64.wrap n=n
 rw [IntKind.wrap_i64]; omega
theorem nH {α:Type} (l:List α) (i:Nat):idx l (i:Int)=l[i]?:=by
 unfold idx; simp
theorem js {α:Type} {l:List α} {i:Int} {x:α}:idx l i=some x ↔ 0≤i∧l[i.toNat]?=some x:=by
 unfold idx; split
 ·simp_all
 ·constructor
  ·intro h; cases h
  ·intro h; omega
theorem dp {α:Type} {l:List α} {i:Nat} (h:i<l.length):idx l (i:Int)=some l[i]:=by
 rw [nH]; simp [h]
theorem jH {α:Type} (p:List α) (x:α) (s:List α):idx (p++x :: s) (p.length:Int)=some x:=by
 rw [nH]; simp
theorem c9 {α:Type} {xs ys:List α} (h:xs.length+ys.length≤549755813888):app xs ys=some (xs++ys):=by unfold app; rw [if_pos h]
theorem zn {α:Type} {xs:List α} {n:Nat} (h:n≤xs.length):Ep xs 0 n=some (xs.take n):=by
 unfold Ep; rw [if_pos ⟨by omega,by omega,by omega⟩]; simp
theorem G6 {α:Type} {xs:List α} {n:Nat} (h:n≤xs.length):Ep xs n (xs.length:Int)=some (xs.drop n):=by
 unfold Ep; rw [if_pos ⟨by omega,by omega,by omega⟩]; simp
theorem qw {α:Type} {z:α} {n:Nat} (h:n≤1000000):z1 z (n:Int)=some (List.replicate n z):=by
 unfold z1; rw [if_pos ⟨by omega,by omega⟩]; simp
theorem HL {α:Type} (p:List α) (x:α) (s:List α):decide ((p.length:Int)<((p++x :: s).length:Int))=true:=by simp; omega
theorem Vs {α:Type} (p:List α):decide ((p.length:Int)<((p++[]).length:Int))=false:=by simp
theorem L8 {α:Type} (p:List α) (x:α) (h:p.length<1000000000):i64 ((p.length:Int)+1)=((p++[x]).length:Int):=by
 rw [cX (by omega) (by omega)]; simp
theorem snoc {α:Type} (p:List α) (x:α) (s:List α):p++x :: s=(p++[x])++s:=by simp
theorem JJ {α R:Type} {L:Nat→α→Option R} {B:(α→Option R)→α→Option R} (hL:∀ n,L (n+1)=B (L n)) (I:α→Prop) (μ:α→Nat) (jh:R→Prop)
  (step:∀ rec a,I a→(∀ a',I a'→μ a'<μ a→∃ r,rec a'=some r∧jh r)→∃ r,B rec a=some r∧jh r):∀ n a,I a→μ a<n→∃ r,L n a=some r∧jh r:=by
 intro n
 induction n with
 | zero=>intro a _ h; omega
 | succ n ih=>intro a hI h; rw [hL]; exact step _ a hI fun a' h1 h2=>ih a' h1 (by omega)
theorem Cc {α β R:Type} {L:Nat→α→β→Option R} {B:(α→β→Option R)→α→β→Option R} (hL:∀ n,L (n+1)=B (L n)) (I:α→β→Prop) (μ:α→β→Nat) (jh:R→Prop)
  (step:∀ rec a b,I a b→(∀ a' b',I a' b'→μ a' b'<μ a b→∃ r,rec a' b'=some r∧jh r)→∃ r,B rec a b=some r∧jh r):∀ n a b,I a b→μ a b<n→∃ r,L n a b=some r∧jh r:=by
 intro n
 induction n with
 | zero=>intro a b _ h; omega
 | succ n ih=>intro a b hI h; rw [hL]; exact step _ a b hI fun a' b' h1 h2=>ih a' b' h1 (by omega)
theorem FW {α β γ δ R:Type} {L:Nat→α→β→γ→δ→Option R} {B:(α→β→γ→δ→Option R)→α→β→γ→δ→Option R} (hL:∀ n,L (n+1)=B (L n)) (I:α→β→γ→δ→Prop) (μ:α→β→γ→δ→Nat) (jh:R→Prop)
  (step:∀ rec a b c d,I a b c d→(∀ a' b' c' d',I a' b' c' d'→μ a' b' c' d'<μ a b c d→∃ r,rec a' b' c' d'=some r∧jh r)→∃ r,B rec a b c d=some r∧jh r):∀ n a b c d,I a b c d→μ a b c d<n→∃ r,L n a b c d=some r∧jh r:=by
 intro n
 induction n with
 | zero=>intro a b c d _ h; omega
 | succ n ih=>intro a b c d hI h; rw [hL]; exact step _ a b c d hI fun a' b' c' d' h1 h2=>ih a' b' c' d' h1 (by omega)
theorem PL {α β γ δ ε R:Type} {L:Nat→α→β→γ→δ→ε→Option R} {B:(α→β→γ→δ→ε→Option R)→α→β→γ→δ→ε→Option R} (hL:∀ n,L (n+1)=B (L n)) (I:α→β→γ→δ→ε→Prop) (μ:α→β→γ→δ→ε→Nat) (jh:R→Prop)
  (step:∀ rec a b c d e,I a b c d e→(∀ a' b' c' d' e',I a' b' c' d' e'→μ a' b' c' d' e'<μ a b c d e→∃ r,rec a' b' c' d' e'=some r∧jh r)→∃ r,B rec a b c d e=some r∧jh r):∀ n a b c d e,I a b c d e→μ a b c d e<n→∃ r,L n a b c d e=some r∧jh r:=by
 intro n
 induction n with
 | zero=>intro a b c d e _ h; omega
 | succ n ih=>intro a b c d e hI h; rw [hL]; exact step _ a b c d e hI fun a' b' c' d' e' h1 h2=>ih a' b' c' d' e' h1 (by omega)
def ly (a b:Int):Int:=if a<b then -1 else if b<a then 1 else 0
theorem nC (a b:Int):cL a b=some (ly a b):=by
 simp only [cL,cmp_isNaN_int,ly,Option.bind_some,bne_self_eq_false,Bool.false_eq_true,if_false,decide_eq_true_eq,gt_iff_lt]
 repeat' split
 all_goals first | rfl | omega
theorem Ix (a b:Int):zf a b=some (ly a b):=by
 simp only [zf,ly,decide_eq_true_eq,gt_iff_lt]
 repeat' split
 all_goals first | rfl | omega
def JO:List Int→Int
 | []=>0
 | x :: r=>if x=0 then JO r else x
theorem Iw (s:List Int):∀ (p:List Int) (n:Nat),(p++s).length<1000000→s.length<n→eU (p++s) n (p.length:Int)=some (JO s):=by
 induction s with
 | nil=>intro p n hb hn; cases n with
  | zero=>omega
  | succ n=>simp only [eU,fA,Vs,Bool.false_eq_true,if_false,JO]
 | cons x s ih=>intro p n hb hn; cases n with
  | zero=>omega
  | succ n =>
   simp only [eU,fA,HL,jH,if_true,Option.bind_some,JO,bne_iff_ne,ne_eq]
   by_cases h:x=0
   ·simp only [h,not_true_eq_false,if_false,if_true]
    have hl:p.length<1000000000:=by simp at hb; omega
    rw [L8 p 0 hl,snoc]
    exact ih (p++[0]) n (by simpa using hb) (by simpa using hn)
   ·simp [h]
theorem Mn {F:Nat} {xs:List Int} (hb:xs.length<1000000) (hF:xs.length<F):gR F xs=some (JO xs):=by
 have:=Iw xs [] F (by simpa using hb) hF
 simpa [gR] using this
def dU (x y:aL):Int:=if ly x.Source y.Source ≠ 0 then ly x.Source y.Source else ly x.Seq y.Seq
def hJ (x y:aL):Int:=if ly x.Time y.Time ≠ 0 then ly x.Time y.Time else dU x y
theorem qO {F:Nat} (hF:10≤F) (x y:aL):DC F x y=some (dU x y):=by
 simp only [DC,nC,Option.bind_some]
 rw [Mn (by simp) (by simp; omega)]
 simp only [Option.bind_some,JO,dU]
 repeat' split
 all_goals simp_all
theorem ud {F:Nat} (hF:10≤F) (x y:aL):yT F x y=some (hJ x y):=by
 simp only [yT,nC,Option.bind_some]
 rw [Mn (by simp) (by simp; omega)]
 simp only [Option.bind_some,JO,hJ,dU]
 repeat' split
 all_goals simp_all
theorem wQ (x y:aL):yR x y=some (hJ x y):=by
 simp only [yR,Ix,Option.bind_some,hJ,dU,beq_iff_eq]
 repeat' split
 all_goals simp_all
def aL.qs (x:aL):Bool:=(decide (x.Time ≥ 0)) && ((decide (x.Time≤1000000)) && ((decide (x.Source ≥ 0)) && ((decide (x.Source≤99)) && ((decide (x.Seq ≥ 0)) && (decide (x.Seq≤9999))))))
theorem IU (x:aL):Cv x=some x.qs:=rfl
theorem tR (x:aL):yW x=some x.qs:=rfl
theorem pC {a b : Int} : ly a b < 0 ↔ a < b := by unfold ly; repeat' split
                                                  all_goals omega
theorem j7 {a b : Int} : ly a b = 0 ↔ a = b := by unfold ly; repeat' split
                                                  all_goals omega
theorem fz {x y:aL}:dU x y<0 ↔ x.Source<y.Source ∨ x.Source=y.Source∧x.Seq<y.Seq:=by
 unfold dU; have:=@j7 x.Source y.Source; split
 ·rw [pC]; simp_all
 ·rw [pC]; simp_all
theorem ed {x y:aL}:dU x y=0 ↔ x.Source=y.Source∧x.Seq=y.Seq:=by
 unfold dU; have:=@j7 x.Source y.Source; have:=@j7 x.Seq y.Seq; split <;> simp_all
theorem iu {x y:aL}:hJ x y<0 ↔ x.Time<y.Time ∨ x.Time=y.Time∧(x.Source<y.Source ∨ x.Source=y.Source∧x.Seq<y.Seq):=by
 unfold hJ; have:=@j7 x.Time y.Time; split
 ·rw [pC]; simp_all
 ·rw [fz]; simp_all
theorem An {x y:aL}:hJ x y=0 ↔ x=y:=by
 have h1:=@j7 x.Time y.Time
 have h2:=@ed x y
 have h3:x=y ↔ x.Time=y.Time∧x.Source=y.Source∧x.Seq=y.Seq:=by cases x; cases y; simp
 unfold hJ; split <;> simp_all
theorem sy {x y:aL}:hJ x y > 0 ↔ hJ y x<0:=by
 rw [iu]
 unfold hJ dU ly
 repeat' split
 all_goals omega
end Go.Sh
namespace Go.Sh
open Go.L
theorem pe {α:Type} {R:α→α→Prop} (hi:∀ a,¬ R a a) (ht:∀ a b c,R a b→R b c→R a c):∀ {xs ys:List α},xs.Pairwise R→ys.Pairwise R→(∀ a,a ∈ xs ↔ a ∈ ys)→xs=ys
 | [],[],_,_,_=>rfl
 | [],y :: ys,_,_,h=>by have:=(h y).2 (by simp); simp at this
 | x :: xs,[],_,_,h=>by have:=(h x).1 (by simp); simp at this
 | x :: xs,y :: ys,hx,hy,h=>by
  rw [List.pairwise_cons] at hx hy
  have lD:x=y:=by
   rcases List.mem_cons.1 ((h x).1 (by simp)) with h1 | h1
   ·exact h1
   ·rcases List.mem_cons.1 ((h y).2 (by simp)) with h2 | h2
    ·exact h2.symm
    ·exact absurd (ht _ _ _ (hx.1 y h2) (hy.1 x h1)) (hi x)
  subst lD
  congr 1
  refine pe hi ht hx.2 hy.2 fun a=>?_
  have:=h a
  simp only [List.mem_cons] at this
  constructor
  ·intro ha
   rcases this.1 (.inr ha) with h1 | h1
   ·subst h1; exact absurd (hx.1 a ha) (hi a)
   ·exact h1
  ·intro ha
   rcases this.2 (.inr ha) with h1 | h1
   ·subst h1; exact absurd (hy.1 a ha) (hi a)
   ·exact h1
def uE {α:Type} (lt:α→α→Bool) (x:α):List α→List α
 | []=>[x]
 | y :: r=>if lt x y then x :: y :: r else y :: uE lt x r
theorem yj {α:Type} {lt:α→α→Bool} {x a:α}:∀ {l:List α},a ∈ uE lt x l ↔ a=x ∨ a ∈ l
 | []=>by simp [uE]
 | y :: r=>by
  simp only [uE]
  split
  ·simp
  ·simp only [List.mem_cons,yj (l:=r)]
   constructor
   ·rintro (h | h | h) <;> simp [h]
   ·rintro (h | h | h) <;> simp [h]
theorem vh {α:Type} {lt:α→α→Bool} {x:α}:∀ {l:List α},(uE lt x l).Perm (x :: l)
 | []=>.refl _
 | y :: r=>by
  simp only [uE]
  split
  ·exact .refl _
  ·exact (vh.cons y).trans (List.Perm.swap x y r)
theorem rh {α:Type} {lt:α→α→Bool} {x:α}:∀ {l:List α},(∀ a ∈ x :: l,∀ b ∈ x :: l,∀ c ∈ x :: l,lt a b=true→lt b c=true→lt a c=true)→(∀ y ∈ l,lt x y=true ∨ lt y x=true)→l.Pairwise (fun a b=>lt a b=true)→(uE lt x l).Pairwise fun a b=>lt a b=true
 | [],_,_,_=>by simp [uE]
 | y :: r,ht,Oq,hp=>by
  rw [List.pairwise_cons] at hp
  simp only [uE]
  split
  ·rename_i lD
   rw [List.pairwise_cons]
   refine ⟨fun a ha=>?_,List.pairwise_cons.2 hp⟩
   rcases List.mem_cons.1 ha with rfl | Rm
   ·exact lD
   ·exact ht x (by simp) y (by simp) a (by simp [Rm]) lD (hp.1 a Rm)
  ·rename_i lD
   have HA:lt y x=true:=(Oq y (by simp)).resolve_left lD
   rw [List.pairwise_cons]
   have jq:∀ a,a ∈ x :: r→a ∈ x :: y :: r:=fun a ha=>by rcases List.mem_cons.1 ha with h | h <;> simp [h]
   refine ⟨fun a ha=>?_,rh (fun a ha b hb c hc=>ht a (jq a ha) b (jq b hb) c (jq c hc)) (fun z hz=>Oq z (by simp [hz])) hp.2⟩
   rcases yj.1 ha with rfl | ha
   ·exact HA
   ·exact hp.1 a ha
def pU {α:Type} (lt:α→α→Bool):List α→List α
 | []=>[]
 | x :: r=>uE lt x (pU lt r)
theorem gW {α:Type} {lt:α→α→Bool}:∀ {l:List α},(pU lt l).Perm l
 | []=>.refl _
 | x :: r=>vh.trans (gW.cons x)
theorem lY {α:Type} {lt:α→α→Bool}:∀ {l:List α},(∀ a ∈ l,∀ b ∈ l,∀ c ∈ l,lt a b=true→lt b c=true→lt a c=true)→l.Pairwise (fun a b=>lt a b=true ∨ lt b a=true)→(pU lt l).Pairwise fun a b=>lt a b=true
 | [],_,_=>by simp [pU]
 | x :: r,ht,hp=>by
  rw [List.pairwise_cons] at hp
  simp only [pU]
  have hm:∀ a,a ∈ x :: pU lt r→a ∈ x :: r:=fun a ha=>by
   rcases List.mem_cons.1 ha with h | h
   ·simp [h]
   ·simp [gW.mem_iff.1 h]
  exact rh (fun a ha b hb c hc=>ht a (hm a ha) b (hm b hb) c (hm c hc)) (fun y hy=>hp.1 y (gW.mem_iff.1 hy)) (lY (fun a ha b hb c hc=>ht a (by simp [ha]) b (by simp [hb]) c (by simp [hc])) hp.2)
theorem zo {α:Type} {c:α→α→Option Int} {xs:List α} (cf:α→α→Int) (hlen:xs.length<1000000) (hc:∀ x ∈ xs,∀ y ∈ xs,c x y=some (cf x y)) (hi:∀ x ∈ xs,¬ cf x x<0) (ht:∀ x ∈ xs,∀ y ∈ xs,∀ z ∈ xs,cf x y<0→cf y z<0→cf x z<0)
  (hn:∀ x ∈ xs,∀ y ∈ xs,∀ z ∈ xs,¬ cf x y<0→¬ cf y z<0→¬ cf x z<0) (hd:xs.Pairwise fun a b=>cf a b<0 ∨ cf b a<0):∃ ys,p8 c xs=some ys∧ys.Perm xs∧ys.Pairwise fun a b=>cf a b<0:=by
 have hs:=lY (lt:=fun a b=>decide (cf a b<0)) (l:=xs) (fun a ha b hb c hc=>by simpa using ht a ha b hb c hc) (by simpa using hd)
 have Fy:(pU (fun a b=>decide (cf a b<0)) xs).Pairwise fun a b=>cf a b<0:=by simpa using hs
 exact ⟨_,G8 ⟨gW,hlen,cf,hc,hi,ht,hn,Fy⟩,gW,Fy⟩
def HC (x y:aL):Prop:=x.Source=y.Source∧x.Seq=y.Seq
instance (x y:aL):Decidable (HC x y):=by unfold HC; infer_instance
def tq (l:List aL) (i:Nat):Prop:=∃ x,l[i]?=some x∧x.qs=true
def uy (l:List aL) (cl:List Int) (i k:Nat):Prop:=∃ x y c d,l[i]?=some x∧l[k]?=some y∧cl[i]?=some c∧cl[k]?=some d∧HC x y∧(x.Time ≠ y.Time ∨ c ≠ d)
def counts (l:List aL) (cl:List Int) (i:Nat):Prop:=tq l i∧∀ k,tq l k→¬ uy l cl i k∧(k<i→l[k]? ≠ l[i]?)
def kZ (l:List aL) (a b:Int):Prop:=∃ x y,l[a.toNat]?=some x∧l[b.toNat]?=some y∧hJ x y<0
structure kI (l:List aL) (cl:List Int) (a:List Int):Prop where
 sorted:a.Pairwise (kZ l)
 mem:∀ i,i ∈ a ↔ 0≤i∧counts l cl i.toNat
theorem FY (l:List aL) (a:Int):¬ kZ l a a:=by
 rintro ⟨x,y,h1,h2,h3⟩
 rw [h1] at h2; cases h2
 rw [iu] at h3; omega
theorem oY (l:List aL) (a b c:Int) (h:kZ l a b) (h':kZ l b c):kZ l a c:=by
 obtain ⟨x,y,h1,h2,h3⟩:=h
 obtain ⟨y',z,h4,h5,h6⟩:=h'
 rw [h2] at h4; cases h4
 refine ⟨x,z,h1,h5,?_⟩
 rw [iu] at *; omega
theorem kI.unique {l:List aL} {cl:List Int} {a b:List Int} (h:kI l cl a) (h':kI l cl b):a=b :=
 pe (FY l) (oY l) h.sorted h'.sorted fun i=>by rw [h.mem,h'.mem]
def Canon (l:List aL) (cl:List Int) (r:List Int × Int):Prop :=
 if l.length ≠ cl.length then r=([],1) else ∃ a,kI l cl a∧r=if 300<a.length then ([],3) else (a,0)
theorem Canon.unique {l:List aL} {cl:List Int} {r s:List Int × Int} (h:Canon l cl r) (h':Canon l cl s):r=s:=by
 unfold Canon at *
 split at h
 ·rename_i hl; rw [if_pos hl] at h'; rw [h,h']
 ·rename_i hl; rw [if_neg hl] at h'
  obtain ⟨a,h1,rfl⟩:=h
  obtain ⟨b,h2,rfl⟩:=h'
  rw [h1.unique h2]
end Go.Sh
namespace Go.Sh
open Go.L
theorem nM {l:List aL} {i:Nat} (h:i<l.length):tq l i ↔ l[i].qs=true:=by
 unfold tq; simp [h]
theorem BS {l:List aL} {cl:List Int} {i k:Nat} (h:i<l.length) (hk:k<l.length) (hl:l.length=cl.length):uy l cl i k ↔ HC l[i] l[k]∧(l[i].Time ≠ l[k].Time ∨ cl[i] ≠ cl[k]):=by
 unfold uy
 have h':i<cl.length:=by omega
 have Eg:k<cl.length:=by omega
 simp only [List.getElem?_eq_getElem,h,hk,h',Eg,Option.some.injEq]
 constructor
 ·rintro ⟨x,y,c,d,rfl,rfl,rfl,rfl,h1,h2⟩; exact ⟨h1,h2⟩
 ·rintro ⟨h1,h2⟩; exact ⟨_,_,_,_,rfl,rfl,rfl,rfl,h1,h2⟩
theorem Cg {l:List aL} {i:Nat} (h:l.length≤i):¬ tq l i:=by
 rintro ⟨x,h1,_⟩; rw [List.getElem?_eq_none h] at h1; cases h1
theorem xC {l:List aL} {cl:List Int} {i:Nat} (hi:i<l.length) (hl:l.length=cl.length) (hb:l.length<1000000) (Rr:l[i].qs=true) :
  ∀ n (k:Int),(∃ j:Nat,k=j∧j≤l.length∧∀ q,q<j→tq l q→¬ uy l cl i q∧(q<i→l[q]? ≠ l[i]?))→(l.length - k.toNat)<n→∃ r,DN l cl i n k=some r∧(r=true ↔ counts l cl i):=by
 refine JJ (L:=DN l cl i) (B:=DJ l cl i) (fun _=>rfl) _ (fun k:Int=>l.length - k.toNat) _ ?_
 rintro rec k ⟨j,rfl,hj,hI⟩ pP
 have gx:i<cl.length:=by omega
 by_cases ec:j<l.length
 ·have Fa:j<cl.length:=by omega
  have d1:decide ((j:Int)<(l.length:Int))=true:=by simp; exact ec
  have oo:i64 ((j:Int)+1)=((j+1:Nat):Int):=by rw [cX (by omega) (by omega)]; rfl
  have Sa:(tq l j→¬ uy l cl i j∧(j<i→l[j]? ≠ l[i]?))→∃ r,rec (i64 ((j:Int)+1))=some r∧(r=true ↔ counts l cl i):=fun h=>by
   rw [oo]
   refine pP _ ⟨j+1,rfl,by omega,fun q hq=>?_⟩ (by simp; omega)
   rcases Nat.lt_succ_iff_lt_or_eq.1 hq with h1 | rfl
   ·exact hI q h1
   ·exact h
  unfold DJ
  simp only [d1,if_true,dp ec,dp hi,dp Fa,dp gx,tR,Option.bind_some,Cr]
  by_cases hg:l[j].qs=true
  ·have gD:tq l j:=(nM ec).2 hg
   simp only [hg,if_true]
   by_cases hd:((l[i].Source == l[j].Source) && ((l[i].Seq == l[j].Seq) && ((l[i].Time != l[j].Time) || (cl[i] != cl[j]))))=true
   ·simp only [hd,if_true,Option.bind_some]
    refine ⟨false,rfl,?_⟩
    simp only [Bool.false_eq_true,false_iff]
    intro hc
    refine (hc.2 j gD).1 ((BS hi ec hl).2 ?_)
    simp at hd; unfold HC; exact ⟨⟨hd.1,hd.2.1⟩,hd.2.2⟩
   ·have Ro:¬ uy l cl i j:=fun h=>hd (by
     have:=(BS hi ec hl).1 h; unfold HC at this; simp [this])
    simp only [bF hd,Bool.false_eq_true,if_false]
    by_cases Ef:j<i
    ·have:decide ((j:Int)<(i:Int))=true:=by simp; exact Ef
     simp only [this,if_true,Option.bind_some]
     by_cases he:l[j]=l[i]
     ·simp only [he,decide_true,if_true]
      refine ⟨false,rfl,?_⟩
      simp only [Bool.false_eq_true,false_iff]
      intro hc
      exact (hc.2 j gD).2 Ef (by simp [ec,hi,he])
     ·simp only [he,decide_false,Bool.false_eq_true,if_false]
      exact Sa fun _=>⟨Ro,fun _ h=>he (by simpa [ec,hi] using h)⟩
    ·have:decide ((j:Int)<(i:Int))=false:=by simp; omega
     simp only [this,Bool.false_eq_true,if_false,Option.bind_some]
     exact Sa fun _=>⟨Ro,fun h=>absurd h Ef⟩
  ·simp only [bF hg,Bool.false_eq_true,if_false,Option.bind_some]
   exact Sa fun h=>absurd ((nM ec).1 h) hg
 ·have d1:decide ((j:Int)<(l.length:Int))=false:=by simp; omega
  unfold DJ
  simp only [d1,Bool.false_eq_true,if_false]
  refine ⟨true,rfl,?_⟩
  simp only [true_iff]
  refine ⟨(nM hi).2 Rr,fun k hk=>hI k ?_ hk⟩
  by_cases Hx:k<l.length
  ·omega
  ·exact absurd hk (Cg (by omega))
theorem zh {F:Nat} {l:List aL} {cl:List Int} {i:Nat} (hi:i<l.length) (hl:l.length=cl.length) (hb:l.length<1000000) (hF:l.length<F):∃ b,yU F l cl i=some b∧(b=true ↔ counts l cl i):=by
 unfold yU
 simp only [dp hi,tR,Option.bind_some]
 by_cases hg:l[i].qs=true
 ·simp only [hg,Bool.not_true,Bool.false_eq_true,if_false]
  exact xC hi hl hb hg F _ ⟨0,rfl,by omega,fun q hq=>by omega⟩ (by simpa using hF)
 ·simp only [bF hg,Bool.not_false,if_true]
  refine ⟨false,rfl,?_⟩
  simp only [Bool.false_eq_true,false_iff]
  exact fun h=>hg ((nM hi).1 h.1)
theorem Ap {l:List aL} {cl:List Int} {i k:Nat} (hi:counts l cl i) (hk:counts l cl k) (h:l[i]?=l[k]?):i=k:=by
 rcases Nat.lt_trichotomy i k with h1 | h1 | h1
 ·exact absurd h ((hk.2 i hi.1).2 h1)
 ·exact h1
 ·exact absurd h.symm ((hi.2 k hk.1).2 h1)
theorem j8 {l:List aL} {cl:List Int} {i:Nat} (h:counts l cl i):i<l.length:=by
 obtain ⟨⟨x,h1,_⟩,_⟩:=h
 exact (List.getElem?_eq_some_iff.1 h1).1
theorem oJ {l:List aL} {cl:List Int} {i k:Nat} (hi:counts l cl i) (hk:counts l cl k) (h:i ≠ k):kZ l i k ∨ kZ l k i:=by
 have h1:=j8 hi
 have h2:=j8 hk
 have h3:l[i] ≠ l[k]:=fun he=>h (Ap hi hk (by simp [h1,h2,he]))
 have h4:¬ hJ l[i] l[k]=0:=fun he=>h3 (An.1 he)
 rcases Int.lt_or_gt_of_ne h4 with h5 | h5
 ·exact .inl ⟨l[i],l[k],by simp [h1],by simp [h2],h5⟩
 ·exact .inr ⟨l[k],l[i],by simp [h2],by simp [h1],sy.1 h5⟩
theorem GZ {l:List aL} {cl:List Int} {out:List Int} {i:Nat} (hi:i<l.length) (hlen:out.length<1000000) (oT:∀ a ∈ out,0≤a∧a.toNat<l.length) (hs:out.Pairwise (kZ l)) {aK:List Int→Int→Option (List Int × Int)} {jh:List Int × Int→Prop}
  (h:∀ p s,out=p++s→(∀ a ∈ s,kZ l i a)→(∀ a,p.getLast?=some a→¬ kZ l i a)→∃ r,aK (p++(i:Int) :: s) (i64 ((i:Int)+1))=some r∧jh r) :
  ∀ n (k:Int),(∃ p s,out=p++s∧k=(p.length:Int)∧∀ a ∈ s,kZ l i a)→k.toNat<n→∃ r,DG aK l out i n k=some r∧jh r:=by
 refine JJ (L:=DG aK l out i) (B:=GH aK l out i) (fun _=>rfl) _ (fun k:Int=>k.toNat) _ ?_
 rintro rec k ⟨p,s,rfl,rfl,Rs⟩ pP
 unfold GH
 have fin:(∀ a,p.getLast?=some a→¬ kZ l i a)→∃ r,((Ep (p++s) 0 (p.length:Int)).bind fun Er=>(app [] Er).bind fun v17=>(app v17 [(i:Int)]).bind fun qf=>(Ep (p++s) (p.length:Int) ((p++s).length:Int)).bind fun rm=>(app qf rm).bind fun v20=>aK v20 (i64 ((i:Int)+1)))=some r∧jh r:=fun Fe=>by
  simp only [List.length_append] at hlen
  rw [zn (by simp),G6 (by simp)]
  simp only [Option.bind_some,List.take_left,List.drop_left]
  rw [c9 (by simp; omega)]
  simp only [Option.bind_some,List.nil_append]
  rw [c9 (by simp; omega)]
  simp only [Option.bind_some]
  rw [c9 (by simp; omega)]
  simp only [Option.bind_some,List.append_assoc,List.singleton_append]
  exact h p s rfl Rs Fe
 rcases List.eq_nil_or_concat p with rfl | ⟨q,a,rfl⟩
 ·simp only [List.length_nil,Int.ofNat_zero,gt_iff_lt,Int.lt_irrefl,decide_false,Bool.false_eq_true,if_false,Option.bind_some]
  exact fin (by simp)
 ·rw [List.concat_eq_append] at *
  have ha:=oT a (by simp)
  have d1:decide (((q++[a]).length:Int) > 0)=true:=by simp only [List.length_append,List.length_singleton,decide_eq_true_eq]; omega
  have hw:i64 (((q++[a]).length:Int) - 1)=(q.length:Int):=by
   simp only [List.length_append,List.length_singleton] at hlen ⊢
   rw [cX (by omega) (by omega)]; omega
  have hq:idx (q++[a]++s) (q.length:Int)=some a:=by rw [List.append_assoc]; exact jH q a s
  have hx:idx l a=some l[a.toNat]:=by rw [js]; exact ⟨ha.1,by simp [ha.2]⟩
  simp only [d1,if_true,hw,hq,hx,dp hi,wQ,Option.bind_some]
  by_cases hc:hJ l[a.toNat] l[i] > 0
  ·simp only [hc,decide_true,if_true]
   have VY:kZ l i a:=⟨l[i],l[a.toNat],by simp [hi],by simp [ha.2],sy.1 hc⟩
   refine pP _ ⟨q,a :: s,by simp,rfl,fun b hb=>?_⟩ (by simp)
   rcases List.mem_cons.1 hb with rfl | hb
   ·exact VY
   ·exact Rs b hb
  ·simp only [hc,decide_false,Bool.false_eq_true,if_false]
   refine fin fun b hb=>?_
   simp at hb; subst hb
   rintro ⟨x,y,h1,h2,h3⟩
   simp [hi] at h1
   simp [ha.2] at h2
   subst h1; subst h2
   exact hc (sy.2 h3)
theorem uJ {F:Nat} {l:List aL} {cl:List Int} (hl:l.length=cl.length) (hb:l.length<1000000) (hF:l.length<F) :
  ∀ n (out:List Int) (k:Int),(∃ j:Nat,k=j∧j≤l.length∧out.length≤j∧out.Pairwise (kZ l)∧∀ i,i ∈ out ↔ 0≤i∧i.toNat<j∧counts l cl i.toNat)→(l.length - k.toNat)<n→∃ r,DF F l cl n out k=some r∧Canon l cl r:=by
 refine Cc (L:=DF F l cl) (B:=GG F l cl) (fun _=>rfl) _ (fun (_:List Int) (k:Int)=>l.length - k.toNat) _ ?_
 rintro rec out k ⟨j,rfl,hj,hlen,hs,hm⟩ pP
 unfold GG
 by_cases ec:j<l.length
 ·have d1 : decide ((j : Int) < (l.length : Int)) = true := by simp; exact ec
  have oo:i64 ((j:Int)+1)=((j+1:Nat):Int):=by rw [cX (by omega) (by omega)]; rfl
  obtain ⟨b,h1,h2⟩:=zh (F:=F) ec hl hb hF
  simp only [d1,if_true,h1,Option.bind_some]
  cases b with
  | false =>
   simp only [Bool.not_false,if_true]
   have kq:¬ counts l cl j:=fun h=>by simpa using h2.2 h
   rw [oo]
   refine pP _ _ ⟨j+1,rfl,by omega,by omega,hs,fun i=>?_⟩ (by simp; omega)
   rw [hm]
   constructor
   ·rintro ⟨a1,a2,a3⟩; exact ⟨a1,by omega,a3⟩
   ·rintro ⟨a1,a2,a3⟩
    refine ⟨a1,?_,a3⟩
    rcases Nat.lt_succ_iff_lt_or_eq.1 a2 with h | h
    ·exact h
    ·rw [h] at a3; exact absurd a3 kq
  | true =>
   simp only [Bool.not_true,Bool.false_eq_true,if_false]
   have hc:counts l cl j:=h2.1 rfl
   refine GZ (cl:=cl) ec (by omega) (fun a ha=>?_) hs ?_ F _ ⟨out,[],by simp,rfl,by simp⟩ (by simp; omega)
   ·have:=(hm a).1 ha; exact ⟨this.1,by omega⟩
   ·rintro p s rfl Rs Fe
    rw [oo]
    have eA:∀ a ∈ p++s,a ≠ (j:Int):=fun a ha h=>by have:=(hm a).1 ha; omega
    have xj:∀ a ∈ p,kZ l a j:=by
     intro a ha
     have SD:∀ b,p.getLast?=some b→kZ l b j:=fun b hb=>by
      have Rn:b ∈ p++s:=by simp [List.mem_of_getLast? hb]
      have Sl:=(hm b).1 Rn
      have:=oJ Sl.2.2 hc (fun h=>by have:=Sl.2.1; omega)
      rw [Int.toNat_of_nonneg Sl.1] at this
      exact this.resolve_right (Fe b hb)
     rcases List.eq_nil_or_concat p with rfl | ⟨q,b,rfl⟩
     ·simp at ha
     ·rw [List.concat_eq_append] at *
      have hb:=SD b (by simp)
      rcases List.mem_append.1 ha with ha | ha
      ·have:kZ l a b:=by
        rw [List.append_assoc,List.pairwise_append] at hs
        exact hs.2.2 a ha b (by simp)
       exact oY l a b j this hb
      ·simp at ha; subst ha; exact hb
    refine pP _ _ ⟨j+1,rfl,by omega,by simp at hlen ⊢; omega,?_,fun i=>?_⟩ (by simp; omega)
    ·rw [List.pairwise_append] at hs ⊢
     refine ⟨hs.1,?_,fun a ha b hb=>?_⟩
     ·rw [List.pairwise_cons]; exact ⟨Rs,hs.2.1⟩
     ·rcases List.mem_cons.1 hb with rfl | hb
      ·exact xj a ha
      ·exact hs.2.2 a ha b hb
    ·have:=hm i
     simp only [List.mem_append,List.mem_cons] at this ⊢
     constructor
     ·rintro (h | h | h)
      ·have:=this.1 (.inl h); exact ⟨this.1,by omega,this.2.2⟩
      ·subst h; exact ⟨by omega,by simp,by simpa using hc⟩
      ·have:=this.1 (.inr h); exact ⟨this.1,by omega,this.2.2⟩
     ·rintro ⟨a1,a2,a3⟩
      by_cases rQ:i=(j:Int)
      ·exact .inr (.inl rQ)
      ·rcases this.2 ⟨a1,by omega,a3⟩ with h | h
       ·exact .inl h
       ·exact .inr (.inr h)
 ·have d1:decide ((j:Int)<(l.length:Int))=false:=by simp; omega
  simp only [d1,Bool.false_eq_true,if_false]
  have E1:kI l cl out:=⟨hs,fun i=>by
   rw [hm]
   constructor
   ·rintro ⟨a1,_,a3⟩; exact ⟨a1,a3⟩
   ·rintro ⟨a1,a3⟩; exact ⟨a1,by have:=j8 a3; omega,a3⟩⟩
  by_cases h3:300<out.length
  ·have:decide ((out.length:Int) > 300)=true:=by simp; omega
   simp only [this,if_true]
   refine ⟨_,rfl,?_⟩
   unfold Canon; rw [if_neg (by omega)]
   exact ⟨out,E1,by rw [if_pos h3]⟩
  ·have:decide ((out.length:Int) > 300)=false:=by simp; omega
   simp only [this,Bool.false_eq_true,if_false]
   refine ⟨_,rfl,?_⟩
   unfold Canon; rw [if_neg (by omega)]
   exact ⟨out,E1,by rw [if_neg h3]⟩
theorem tQ {F:Nat} {l:List aL} {cl:List Int} (hb:l.length<1000000) (hF:l.length<F):∃ r,DM F l cl=some r∧Canon l cl r:=by
 unfold DM
 by_cases hl:l.length=cl.length
 ·have:((cl.length:Int) != (l.length:Int))=false:=by simp; omega
  simp only [this,Bool.false_eq_true,if_false]
  exact uJ hl hb hF F _ _ ⟨0,rfl,by omega,by simp,by simp,fun i=>by simp⟩ (by simpa using hF)
 ·have:((cl.length:Int) != (l.length:Int))=true:=by simp; omega
  simp only [this,if_true]
  exact ⟨_,rfl,by unfold Canon; rw [if_pos hl]⟩
end Go.Sh
namespace Go.Sh
open Go.L
def sat (l:List aL) (i:Int):aL:=l.getD i.toNat default
def cat (cl:List Int) (i:Int):Int:=cl.getD i.toNat 0
def qg (l:List aL) (i:Int):Prop:=0≤i∧tq l i.toNat
theorem ue {l:List aL} {i:Int} (h:qg l i):i.toNat<l.length:=by
 obtain ⟨_,x,h1,_⟩:=h; exact (List.getElem?_eq_some_iff.1 h1).1
theorem nU {l:List aL} {i:Int} (h:qg l i):idx l i=some (sat l i):=by
 have:=ue h
 rw [js]; exact ⟨h.1,by simp [sat,this]⟩
theorem zR {l:List aL} {cl:List Int} {i:Int} (h:qg l i) (hl:l.length=cl.length):idx cl i=some (cat cl i):=by
 have:=ue h
 have:i.toNat<cl.length:=by omega
 rw [js]; exact ⟨h.1,by simp [cat,this]⟩
theorem kS {l:List aL} {i:Int} (h:qg l i):l[i.toNat]?=some (sat l i):=by
 have:=ue h; simp [sat,this]
theorem zQ {l:List aL} {cl:List Int} {i:Int} (h:qg l i) (hl:l.length=cl.length):cl[i.toNat]?=some (cat cl i):=by
 have:=ue h
 have:i.toNat<cl.length:=by omega
 simp [cat,this]
def diff (l:List aL) (cl:List Int) (i k:Int):Prop:=sat l i ≠ sat l k ∨ cat cl i ≠ cat cl k
def pB (l:List aL) (i j:Int):Int:=if dU (sat l i) (sat l j) ≠ 0 then dU (sat l i) (sat l j) else ly i j
theorem lu {l:List aL} {i j:Int}:pB l i j<0 ↔ ((sat l i).Source<(sat l j).Source ∨ (sat l i).Source=(sat l j).Source∧((sat l i).Seq<(sat l j).Seq ∨ (sat l i).Seq=(sat l j).Seq∧i<j)):=by
 have h1:=@fz (sat l i) (sat l j)
 have h2:=@ed (sat l i) (sat l j)
 have h3:=@pC i j
 unfold pB; split <;> omega
theorem CY {F:Nat} (hF:10≤F) {l:List aL} {i j:Int} (hi:qg l i) (hj:qg l j):vm F i j l=some (pB l i j):=by
 simp only [vm,nU hi,nU hj,qO hF,nC,Option.bind_some]
 rw [Mn (by simp) (by simp; omega)]
 simp only [Option.bind_some,JO,pB]
 repeat' split
 all_goals simp_all
structure ke (l:List aL) (cl:List Int) (T:List Int) (gs:List ep):Prop where
 first:∀ g ∈ gs,g.first ∈ T
 each:∀ t ∈ T,∃ g ∈ gs,dU (sat l g.first) (sat l t)=0∧g.first≤t
 Ku:∀ g ∈ gs,(g.dV=true ↔ ∃ t ∈ T,dU (sat l g.first) (sat l t)=0∧diff l cl g.first t)
 I1:gs.Pairwise fun g h=>dU (sat l g.first) (sat l h.first)<0
 len:gs.length≤T.length
 last:∀ g,gs.getLast?=some g→∀ t ∈ T,¬ dU (sat l g.first) (sat l t)<0
theorem ke.new {l:List aL} {cl:List Int} {T:List Int} {gs:List ep} {x:Int} (h:ke l cl T gs) (hx:∀ t ∈ T,pB l t x<0) (hn:∀ g,gs.getLast?=some g→dU (sat l g.first) (sat l x) ≠ 0):ke l cl (T++[x]) (gs++[⟨x,false⟩]):=by
 have ec:∀ g ∈ gs,dU (sat l g.first) (sat l x)<0:=by
  intro g hg
  rcases List.eq_nil_or_concat gs with rfl | ⟨zT,g',rfl⟩
  ·simp at hg
  ·rw [List.concat_eq_append] at *
   have h1:dU (sat l g'.first) (sat l x)<0:=by
    have a1:=hn g' (by simp)
    have a2:=hx g'.first (h.first g' (by simp))
    rw [lu] at a2; rw [fz]; have:=mt (@ed (sat l g'.first) (sat l x)).2 a1; omega
   rcases List.mem_append.1 hg with hg | hg
   ·have:=(List.pairwise_append.1 h.I1).2.2 g hg g' (by simp)
    rw [fz] at *; omega
   ·simp at hg; subst hg; exact h1
 have On:∀ t ∈ T,dU (sat l t) (sat l x)<0:=by
  intro t ht
  obtain ⟨g,hg,h1,_⟩:=h.each t ht
  have h2:=ec g hg
  rw [ed] at h1; rw [fz] at *; omega
 constructor
 ·intro g hg
  rcases List.mem_append.1 hg with hg | hg
  ·simp [h.first g hg]
  ·simp at hg; subst hg; simp
 ·intro t ht
  rcases List.mem_append.1 ht with ht | ht
  ·obtain ⟨g,hg,h1⟩:=h.each t ht; exact ⟨g,by simp [hg],h1⟩
  ·simp at ht; subst ht; exact ⟨⟨t,false⟩,by simp,by simp [ed],Int.le_refl _⟩
 ·intro g wi
  rcases List.mem_append.1 wi with hg | hg
  ·rw [h.Ku g hg]
   constructor
   ·rintro ⟨t,ht,h1⟩; exact ⟨t,by simp [ht],h1⟩
   ·rintro ⟨t,ht,h1⟩
    have:=ec g hg
    rcases List.mem_append.1 ht with ht | ht
    ·exact ⟨t,ht,h1⟩
    ·simp at ht; rw [ht] at h1; omega
  ·simp at hg; subst hg
   simp only [Bool.false_eq_true,false_iff]
   rintro ⟨t,ht,h1,h2⟩
   rcases List.mem_append.1 ht with ht | ht
   ·have:=On t ht; rw [ed] at h1; rw [fz] at this; omega
   ·simp at ht; subst ht; rcases h2 with h2 | h2 <;> exact h2 rfl
 ·rw [List.pairwise_append]; exact ⟨h.I1,by simp,fun g hg g' sW=>by simp at sW; subst sW; exact ec g hg⟩
 ·simp; exact h.len
 ·intro g hg t ht
  simp at hg; subst hg
  show ¬ dU (sat l x) (sat l t)<0
  rcases List.mem_append.1 ht with ht | ht
  ·have:=On t ht; rw [fz] at *; omega
  ·simp at ht; subst ht; rw [fz]; omega
theorem ke.T1 {l:List aL} {cl:List Int} {T:List Int} {gs:List ep} {g:ep} {x:Int} {b:Bool} (h:ke l cl T (gs++[g])) (hx:∀ t ∈ T,pB l t x<0) (he:dU (sat l g.first) (sat l x)=0) (hb:b=true ↔ g.dV=true ∨ diff l cl g.first x):ke l cl (T++[x]) (gs++[⟨g.first,b⟩]):=by
 have Sz:g.first≤x:=by
  have:=hx g.first (h.first g (by simp))
  rw [lu] at this; rw [ed] at he; omega
 have ec:∀ k ∈ gs,dU (sat l k.first) (sat l x)<0:=fun k hk=>by
  have:=(List.pairwise_append.1 h.I1).2.2 k hk g (by simp)
  rw [ed] at he; rw [fz] at *; omega
 constructor
 ·intro k hk
  rcases List.mem_append.1 hk with hk | hk
  ·simp [h.first k (by simp [hk])]
  ·simp at hk; subst hk; simp [h.first g (by simp)]
 ·intro t ht
  rcases List.mem_append.1 ht with ht | ht
  ·obtain ⟨k,hk,h1⟩:=h.each t ht
   rcases List.mem_append.1 hk with hk | hk
   ·exact ⟨k,by simp [hk],h1⟩
   ·simp at hk; subst hk; exact ⟨⟨k.first,b⟩,by simp,h1⟩
  ·simp at ht; subst ht; exact ⟨⟨g.first,b⟩,by simp,he,Sz⟩
 ·intro k hk
  rcases List.mem_append.1 hk with hk | hk
  ·rw [h.Ku k (by simp [hk])]
   constructor
   ·rintro ⟨t,ht,h1⟩; exact ⟨t,by simp [ht],h1⟩
   ·rintro ⟨t,ht,h1⟩
    rcases List.mem_append.1 ht with ht | ht
    ·exact ⟨t,ht,h1⟩
    ·simp at ht; subst ht; have:=ec k hk; omega
  ·simp at hk; subst hk
   show b=true ↔ _
   rw [hb,h.Ku g (by simp)]
   constructor
   ·rintro (⟨t,ht,h1⟩ | h1)
    ·exact ⟨t,by simp [ht],h1⟩
    ·exact ⟨x,by simp,he,h1⟩
   ·rintro ⟨t,ht,h1,h2⟩
    rcases List.mem_append.1 ht with ht | ht
    ·exact .inl ⟨t,ht,h1,h2⟩
    ·simp at ht; subst ht; exact .inr h2
 ·have:=h.I1
  rw [List.pairwise_append] at this ⊢
  exact ⟨this.1,by simp,fun k hk g' sW=>by simp at sW; subst sW; exact this.2.2 k hk g (by simp)⟩
 ·have:=h.len; simp at this ⊢; omega
 ·intro k hk t ht
  simp at hk; subst hk
  rcases List.mem_append.1 ht with ht | ht
  ·exact h.last g (by simp) t ht
  ·simp at ht; subst ht; show ¬ dU (sat l g.first) _<0; omega
theorem xJ {F:Nat} (hF:10≤F) {l:List aL} {cl:List Int} (hl:l.length=cl.length) (hb:l.length<1000000) {S:List Int} (hS:S.Pairwise fun a b=>pB l a b<0) (hv:∀ i ∈ S,qg l i) (Se:S.length≤l.length) :
  ∀ n (k:Int) (gs:List ep),(∃ T U,S=T++U∧k=(T.length:Int)∧ke l cl T gs)→(S.length - k.toNat)<n→∃ r,DQ F l cl S n k gs=some r∧ke l cl S r:=by
 refine Cc (L:=DQ F l cl S) (B:=GV F l cl S) (fun _=>rfl) _ (fun (k:Int) (_:List ep)=>S.length - k.toNat) _ ?_
 rintro rec k gs ⟨T,U,Hu,rfl,hG⟩ pP
 unfold GV
 cases U with
 | nil =>
  have d1:decide ((T.length:Int)<(S.length:Int))=false:=by subst Hu; simp
  simp only [d1,Bool.false_eq_true,if_false]
  refine ⟨gs,rfl,?_⟩
  subst Hu; simpa using hG
 | cons x U =>
  have d1:decide ((T.length:Int)<(S.length:Int))=true:=by subst Hu; exact HL T x U
  have Hw:idx S (T.length:Int)=some x:=by subst Hu; exact jH T x U
  have W7:T.length<1000000:=by have:=congrArg List.length Hu; simp at this; omega
  have hx:∀ t ∈ T,pB l t x<0:=fun t ht=>by
   rw [Hu] at hS; exact (List.pairwise_append.1 hS).2.2 t ht x (by simp)
  have vx:qg l x:=hv x (by rw [Hu]; simp)
  have Jb:∀ zT,ke l cl (T++[x]) zT→∃ r,rec (i64 ((T.length:Int)+1)) zT=some r∧ke l cl S r:=fun zT sW=>by
   rw [L8 T x (by omega)]
   refine pP _ _ ⟨T++[x],U,by simp [Hu],rfl,sW⟩ ?_
   have:=congrArg List.length Hu
   simp at this ⊢; omega
  simp only [d1,if_true,Hw,Option.bind_some]
  have NR:gs.length≤T.length:=hG.len
  rcases List.eq_nil_or_concat gs with rfl | ⟨zT,g,rfl⟩
  ·have:decide (i64 ((([]:List ep).length:Int) - 1)<0)=true:=by rw [cX (by simp) (by simp)]; simp
   simp only [this,if_true,Option.bind_some]
   rw [c9 (by simp)]
   exact Jb _ (hG.new hx (by simp))
  ·rw [List.concat_eq_append] at *
   simp only [List.length_append,List.length_singleton] at NR
   have hw:i64 (((zT++[g]).length:Int) - 1)=(zT.length:Int):=by
    simp only [List.length_append,List.length_singleton]
    rw [cX (by omega) (by omega)]; omega
   have Sz:idx (zT++[g]) (zT.length:Int)=some g:=jH zT g []
   have K8:decide ((zT.length:Int)<0)=false:=by simp
   have vg:qg l g.first:=hv _ (by rw [Hu]; simp [hG.first g (by simp)])
   have KC:app (zT++[g]) [ep.mk x false]=some (zT++[g]++[ep.mk x false]):=c9 (by simp; omega)
   simp only [hw,K8,Sz,nU vg,nU vx,zR vg hl,zR vx hl,qO hF,Bool.false_eq_true,if_false,Option.bind_some,bne_iff_ne,ne_eq,KC]
   by_cases he:dU (sat l g.first) (sat l x)=0
   ·simp only [he,not_true_eq_false,if_false,Bool.not_eq_eq_eq_not,Bool.not_true,decide_eq_false_iff_not]
    have iP:(zT++[g]).set ((zT.length:Int)).toNat (ep.mk g.first true)=zT++[ep.mk g.first true]:=by simp
    by_cases hd:sat l g.first=sat l x
    ·simp only [hd,not_true_eq_false,if_false,Option.bind_some,bne_iff_ne,ne_eq]
     by_cases hc:cat cl g.first=cat cl x
     ·simp only [hc,not_true_eq_false,if_false]
      have:=hG.T1 (b:=g.dV) hx he ⟨.inl,fun h=>h.elim id fun h=>(h.elim (fun h=>absurd hd h) fun h=>absurd hc h)⟩
      exact Jb _ this
     ·simp only [hc,not_false_eq_true,if_true,iP]
      exact Jb _ (hG.T1 (b:=true) hx he ⟨fun _=>.inr (.inr hc),fun _=>rfl⟩)
    ·simp only [hd,not_false_eq_true,if_true,Option.bind_some,iP]
     exact Jb _ (hG.T1 (b:=true) hx he ⟨fun _=>.inr (.inl hd),fun _=>rfl⟩)
   ·simp only [he,not_false_eq_true,if_true]
    exact Jb _ (hG.new hx (by simpa using he))
theorem wb {F:Nat} (hF:10≤F) {l:List aL} {cl:List Int} (hl:l.length=cl.length) (hb:l.length<1000000) (Ht:l.length<F) :
  ∀ n (k:Int) (acc:List Int),(∃ j:Nat,k=j∧j≤l.length∧acc.length≤j∧acc.Pairwise (·<·)∧∀ i,i ∈ acc ↔ qg l i∧i<j)→(l.length - k.toNat)<n →
   ∃ r,DP F l cl n k acc=some r∧∃ S,(∀ i,i ∈ S ↔ qg l i)∧S.length≤l.length∧ke l cl S r:=by
 refine Cc (L:=DP F l cl) (B:=GU F l cl) (fun _=>rfl) _ (fun (k:Int) (_:List Int)=>l.length - k.toNat) _ ?_
 rintro rec k acc ⟨j,rfl,hj,hlen,hs,hm⟩ pP
 unfold GU
 by_cases ec:j<l.length
 ·have d1:decide ((j:Int)<(l.length:Int))=true:=by simp; exact ec
  have oo:i64 ((j:Int)+1)=((j+1:Nat):Int):=by rw [cX (by omega) (by omega)]; rfl
  simp only [d1,if_true,dp ec,IU,Option.bind_some]
  by_cases hg:l[j].qs=true
  ·simp only [hg,if_true]
   rw [c9 (by simp; omega)]
   simp only [Option.bind_some,oo]
   refine pP _ _ ⟨j+1,rfl,by omega,by simp; omega,?_,fun i=>?_⟩ (by simp; omega)
   ·rw [List.pairwise_append]; exact ⟨hs,by simp,fun a ha b hb=>by simp at hb; subst hb; exact ((hm a).1 ha).2⟩
   ·simp only [List.mem_append,List.mem_singleton,hm]
    constructor
    ·rintro (⟨h1,h2⟩ | rfl)
     ·exact ⟨h1,by omega⟩
     ·exact ⟨⟨by omega,by simpa using (nM ec).2 hg⟩,by omega⟩
    ·rintro ⟨h1,h2⟩
     by_cases h:i=(j:Int)
     ·exact .inr h
     ·exact .inl ⟨h1,by omega⟩
  ·simp only [bF hg,Bool.false_eq_true,if_false,oo]
   refine pP _ _ ⟨j+1,rfl,by omega,by omega,hs,fun i=>?_⟩ (by simp; omega)
   rw [hm]
   constructor
   ·rintro ⟨h1,h2⟩; exact ⟨h1,by omega⟩
   ·rintro ⟨h1,h2⟩
    refine ⟨h1,?_⟩
    by_cases h:i=(j:Int)
    ·subst h; exact absurd ((nM ec).1 (by simpa using h1.2)) hg
    ·omega
 ·have d1:decide ((j:Int)<(l.length:Int))=false:=by simp; omega
  simp only [d1,Bool.false_eq_true,if_false]
  have hv:∀ i,i ∈ acc ↔ qg l i:=fun i=>by
   rw [hm]
   constructor
   ·exact fun h=>h.1
   ·intro h; refine ⟨h,?_⟩; have:=ue h; have:=h.1; omega
  obtain ⟨S,h1,h2,h3⟩:=zo (c:=fun a0 a1=>vm F a0 a1 l) (xs:=acc) (pB l) (by omega) (fun x hx y hy=>CY hF ((hv x).1 hx) ((hv y).1 hy)) (fun x _=>by rw [lu]; omega)
   (fun x _ y _ z _ a b=>by rw [lu] at *; omega) (fun x _ y _ z _ a b=>by rw [lu] at *; omega) (hs.imp fun {a b} h=>by simp only [lu]; omega)
  simp only [h1,Option.bind_some]
  have Ux:∀ i,i ∈ S ↔ qg l i:=fun i=>by rw [h2.mem_iff,hv]
  have Se:S.length≤l.length:=by rw [h2.length_eq]; omega
  obtain ⟨r,h4,h5⟩:=xJ hF hl hb h3 (fun i hi=>(Ux i).1 hi) Se F 0 [] ⟨[],S,rfl,rfl,⟨by simp,by simp,by simp,by simp,by simp,by simp⟩⟩ (by simp; omega)
  exact ⟨r,h4,S,Ux,Se,h5⟩
structure qk (l:List aL) (cl:List Int) (gs:List ep):Prop where
 first:∀ g ∈ gs,qg l g.first
 each:∀ t,qg l t→∃ g ∈ gs,dU (sat l g.first) (sat l t)=0∧g.first≤t
 Ku:∀ g ∈ gs,(g.dV=true ↔ ∃ t,qg l t∧dU (sat l g.first) (sat l t)=0∧diff l cl g.first t)
 I1:gs.Pairwise fun g h=>dU (sat l g.first) (sat l h.first)<0
 len:gs.length≤l.length
theorem EX {F:Nat} (hF:10≤F) {l:List aL} {cl:List Int} (hl:l.length=cl.length) (hb:l.length<1000000) (Ht:l.length<F):∃ gs,Cu F l cl=some gs∧qk l cl gs:=by
 obtain ⟨r,h1,S,h2,h3,h4⟩:=wb hF hl hb Ht F 0 [] ⟨0,rfl,by omega,by simp,by simp,fun i=>by simp [qg]; omega⟩ (by simpa using Ht)
 refine ⟨r,h1,fun g hg=>(h2 _).1 (h4.first g hg),fun t ht=>h4.each t ((h2 t).2 ht),fun g hg=>?_,h4.I1,Nat.le_trans h4.len h3⟩
 rw [h4.Ku g hg]
 simp only [h2]
end Go.Sh
namespace Go.Sh
open Go.L
theorem Ao {l:List aL} {cl:List Int} {gs:List ep} (hl:l.length=cl.length) (hG:qk l cl gs) (i:Int):(0≤i∧counts l cl i.toNat) ↔ ∃ g ∈ gs,g.dV=false∧g.first=i:=by
 have I9:∀ a b:Int,qg l a→qg l b→(uy l cl a.toNat b.toNat ↔ dU (sat l a) (sat l b)=0∧((sat l a).Time ≠ (sat l b).Time ∨ cat cl a ≠ cat cl b)):=fun a b ha hb=>by
  unfold uy HC
  rw [ed,kS ha,kS hb,zQ ha hl,zQ hb hl]
  simp only [Option.some.injEq]
  constructor
  ·rintro ⟨x,y,c,d,rfl,rfl,rfl,rfl,h⟩; exact h
  ·intro h; exact ⟨_,_,_,_,rfl,rfl,rfl,rfl,h⟩
 have heq:∀ x y:aL,dU x y=0→(x=y ↔ x.Time=y.Time):=fun x y h=>by
  rw [ed] at h
  cases x; cases y; simp at h ⊢; simp [h]
 constructor
 ·rintro ⟨h0,hc⟩
  have hv:qg l i:=⟨h0,hc.1⟩
  obtain ⟨g,hg,h1,h2⟩:=hG.each i hv
  have vg:=hG.first g hg
  have hnd:∀ t,qg l t→¬ (dU (sat l i) (sat l t)=0∧((sat l i).Time ≠ (sat l t).Time ∨ cat cl i ≠ cat cl t)):=fun t ht h=>(hc.2 t.toNat ht.2).1 ((I9 i t hv ht).2 h)
  have Vv:dU (sat l i) (sat l g.first)=0:=by rw [ed] at *; omega
  have Rr:g.first=i:=by
   by_cases ec:g.first<i
   ·have a1:=hnd _ vg
    have a2:sat l g.first=sat l i:=(heq _ _ h1).2 (Decidable.byContradiction fun eA=>a1 ⟨Vv,.inl fun h=>eA h.symm⟩)
    have a3:=(hc.2 g.first.toNat vg.2).2 (by have:=vg.1; omega)
    rw [kS vg,kS hv,a2] at a3
    exact absurd rfl a3
   ·omega
  refine ⟨g,hg,?_,Rr⟩
  cases hd:g.dV with
  | false=>rfl
  | true =>
   obtain ⟨t,ht,b1,b2⟩:=(hG.Ku g hg).1 hd
   rw [Rr] at b1 b2
   refine absurd ?_ (hnd t ht)
   refine ⟨b1,?_⟩
   rcases b2 with b2 | b2
   ·exact .inl fun h=>b2 ((heq _ _ b1).2 h)
   ·exact .inr b2
 ·rintro ⟨g,hg,hd,rfl⟩
  have vg:=hG.first g hg
  refine ⟨vg.1,vg.2,fun k hk=>?_⟩
  have vk:qg l (k:Int):=⟨by omega,by simpa using hk⟩
  constructor
  ·intro h
   have h':=(I9 g.first k vg vk).1 (by simpa using h)
   have:g.dV=true:=(hG.Ku g hg).2 ⟨k,vk,h'.1,by
    rcases h'.2 with h | h
    ·exact .inl fun he=>h (by rw [he])
    ·exact .inr h⟩
   rw [hd] at this; cases this
  ·intro ec he
   have AE:sat l k=sat l g.first:=by
    have:=kS vk
    simp only [Int.toNat_natCast] at this
    rw [this,kS vg] at he; exact Option.some.inj he
   obtain ⟨g',sW,h1,h2⟩:=hG.each k vk
   have VV:dU (sat l g'.first) (sat l g.first)=0:=by rw [← AE]; exact h1
   have:g'=g:=by
    by_cases h:g'=g
    ·exact h
    ·have ha:=hG.I1
     have:dU (sat l g'.first) (sat l g.first)<0 ∨ dU (sat l g.first) (sat l g'.first)<0:=by
      obtain ⟨a,Rm⟩:=List.mem_iff_getElem.1 sW
      obtain ⟨b,gH⟩:=List.mem_iff_getElem.1 hg
      rw [List.pairwise_iff_getElem] at ha
      obtain ⟨la,rfl⟩:=Rm
      obtain ⟨lb,rfl⟩:=gH
      rcases Nat.lt_trichotomy a b with h3 | h3 | h3
      ·exact .inl (ha a b la lb h3)
      ·subst h3; exact absurd rfl h
      ·exact .inr (ha b a lb la h3)
     rw [ed] at VV; rw [fz,fz] at this; omega
   subst this
   have:=vg.1; omega
theorem EK {F:Nat} (hF:10≤F) {l:List aL} {i j:Int} (hi:qg l i) (hj:qg l j):DK F i j l=some (hJ (sat l i) (sat l j)):=by
 simp only [DK,nU hi,nU hj,ud hF,Option.bind_some]
def iw (gs:List ep):List Int:=(gs.filter fun g=>!g.dV).map (·.first)
theorem Au (gs:List ep):(iw gs).length≤gs.length:=by
 unfold iw; rw [List.length_map]; exact List.length_filter_le _ _
theorem sv {F:Nat} (hF:10≤F) {l:List aL} {cl:List Int} (hl:l.length=cl.length) (hb:l.length<1000000) {gs:List ep} (hG:qk l cl gs) :
  ∀ n (k:Int) (acc:List Int),(∃ p s,gs=p++s∧k=(p.length:Int)∧acc=iw p)→(gs.length - k.toNat)<n→∃ r,DH F l gs n k acc=some r∧Canon l cl r:=by
 refine Cc (L:=DH F l gs) (B:=GL F l gs) (fun _=>rfl) _ (fun (k:Int) (_:List Int)=>gs.length - k.toNat) _ ?_
 rintro rec k acc ⟨p,s,rC,rfl,rfl⟩ pP
 unfold GL
 have NR:=hG.len
 have xj:p.length≤gs.length:=by rw [rC]; simp
 have C6:=Au p
 cases s with
 | cons g s =>
  have d1:decide ((p.length:Int)<(gs.length:Int))=true:=by rw [rC]; exact HL p g s
  have Hw:idx gs (p.length:Int)=some g:=by rw [rC]; exact jH p g s
  have hm:gs.length - ((p++[g]).length:Int).toNat<gs.length - (p.length:Int).toNat:=by
   have:=congrArg List.length rC; simp at this ⊢; omega
  simp only [d1,if_true,Hw,Option.bind_some,L8 p g (by omega)]
  cases hd:g.dV with
  | false =>
   simp only [Bool.not_false,if_true]
   rw [c9 (by simp; omega)]
   exact pP _ _ ⟨p++[g],s,by simp [rC],rfl,by simp [iw,hd]⟩ hm
  | true =>
   simp only [Bool.not_true,Bool.false_eq_true,if_false]
   exact pP _ _ ⟨p++[g],s,by simp [rC],rfl,by simp [iw,hd]⟩ hm
 | nil =>
  have Lc:gs=p:=by simpa using rC
  subst Lc
  have d1:decide ((gs.length:Int)<(gs.length:Int))=false:=by simp
  simp only [d1,Bool.false_eq_true,if_false]
  have gI:∀ i,i ∈ iw gs ↔ 0≤i∧counts l cl i.toNat:=fun i=>by
   rw [Ao hl hG]
   simp only [iw,List.mem_map,List.mem_filter,Bool.not_eq_eq_eq_not,Bool.not_true]
   constructor
   ·rintro ⟨g,⟨h1,h2⟩,h3⟩; exact ⟨g,h1,h2,h3⟩
   ·rintro ⟨g,h1,h2,h3⟩; exact ⟨g,⟨h1,h2⟩,h3⟩
  have xY:∀ i ∈ iw gs,qg l i:=fun i hi=>by have:=(gI i).1 hi; exact ⟨this.1,this.2.1⟩
  have hnd:(iw gs).Pairwise fun a b=>a ≠ b:=by
   unfold iw
   rw [List.pairwise_map]
   refine (hG.I1.filter _).imp fun {a b} h he=>?_
   rw [he,fz] at h; omega
  have ec:∀ i j,qg l i→qg l j→(hJ (sat l i) (sat l j)<0 ↔ kZ l i j):=fun i j hi hj=>by
   unfold kZ; rw [kS hi,kS hj]
   constructor
   ·intro h; exact ⟨_,_,rfl,rfl,h⟩
   ·rintro ⟨x,y,h1,h2,h3⟩; cases h1; cases h2; exact h3
  obtain ⟨a,h1,h2,h3⟩:=zo (c:=fun a0 a1=>DK F a0 a1 l) (xs:=iw gs) (fun i j=>hJ (sat l i) (sat l j)) (by omega) (fun x hx y hy=>EK hF (xY x hx) (xY y hy)) (fun x _=>by rw [iu]; omega)
   (fun x _ y _ z _ p q=>by rw [iu] at *; omega) (fun x _ y _ z _ p q=>by rw [iu] at *; omega) (List.Pairwise.imp_of_mem (fun {x y} hx hy eA=>by
    have cx:=(gI x).1 hx
    have cy:=(gI y).1 hy
    have:=oJ cx.2 cy.2 (fun h=>eA (by omega))
    rw [Int.toNat_of_nonneg cx.1,Int.toNat_of_nonneg cy.1,← ec x y (xY x hx) (xY y hy),← ec y x (xY y hy) (xY x hx)] at this
    exact this) hnd)
  have E1:kI l cl a:=⟨List.Pairwise.imp_of_mem (fun {x y} hx hy h=>(ec x y (xY x (h2.mem_iff.1 hx)) (xY y (h2.mem_iff.1 hy))).1 h) h3,fun i=>by rw [h2.mem_iff]; exact gI i⟩
  have hlen:(iw gs).length=a.length:=h2.length_eq.symm
  by_cases Nx:300<a.length
  ·have:decide (((iw gs).length:Int) > 300)=true:=by simp; omega
   simp only [this,if_true]
   refine ⟨_,rfl,?_⟩
   unfold Canon; rw [if_neg (by omega)]
   exact ⟨a,E1,by rw [if_pos Nx]⟩
  ·have:decide (((iw gs).length:Int) > 300)=false:=by simp; omega
   simp only [this,Bool.false_eq_true,if_false,h1,Option.bind_some]
   refine ⟨_,rfl,?_⟩
   unfold Canon; rw [if_neg (by omega)]
   exact ⟨a,E1,by rw [if_neg Nx]⟩
theorem xA {F:Nat} (hF:10≤F) {l:List aL} {cl:List Int} (hb:l.length<1000000) (Ht:l.length<F):∃ r,DO F l cl=some r∧Canon l cl r:=by
 unfold DO
 by_cases hl:l.length=cl.length
 ·have:((l.length:Int) != (cl.length:Int))=false:=by simp; omega
  simp only [this,Bool.false_eq_true,if_false]
  obtain ⟨gs,h1,h2⟩:=EX hF hl hb Ht
  simp only [h1,Option.bind_some]
  have:=h2.len
  exact sv hF hl hb h2 F 0 [] ⟨[],gs,rfl,rfl,rfl⟩ (by simp; omega)
 ·have:((l.length:Int) != (cl.length:Int))=true:=by simp; omega
  simp only [this,if_true]
  exact ⟨_,rfl,by unfold Canon; rw [if_pos hl]⟩
end Go.Sh
namespace Go.Sh
open Go.L
def okB (l:List aL) (i:Nat):Bool:=match l[i]? with | some x=>x.qs | .none=>false
theorem wA {l:List aL} {i:Nat}:okB l i=true ↔ tq l i:=by
 unfold okB tq; cases l[i]? <;> simp
def BR (l:List aL) (cl:List Int) (i k:Nat):Bool:=match l[i]?,l[k]?,cl[i]?,cl[k]? with
 | some x,some y,some c,some d=>decide (x.Source=y.Source) && decide (x.Seq=y.Seq) && (decide (x.Time ≠ y.Time) || decide (c ≠ d))
 | _,_,_,_=>false
theorem uW {l:List aL} {cl:List Int} {i k:Nat}:BR l cl i k=true ↔ uy l cl i k:=by
 unfold BR uy HC
 cases l[i]? with
 | none=>simp
 | some x=>cases l[k]? with
  | none=>simp
  | some y=>cases cl[i]? with
   | none=>simp
   | some c=>cases cl[k]? with
    | none=>simp
    | some d=>simp [and_assoc]
def nD (l:List aL) (cl:List Int) (i:Nat):Bool:=okB l i && (List.range l.length).all fun k=>!okB l k || (!BR l cl i k && (!decide (k<i) || decide (l[k]? ≠ l[i]?)))
theorem qP {l:List aL} {cl:List Int} {i:Nat}:nD l cl i=true ↔ counts l cl i:=by
 unfold nD counts
 simp only [Bool.and_eq_true,wA,List.all_eq_true,List.mem_range,Bool.or_eq_true,Bool.not_eq_true',decide_eq_true_eq,decide_eq_false_iff_not]
 constructor
 ·rintro ⟨h1,h2⟩
  refine ⟨h1,fun k hk=>?_⟩
  have Hx:k<l.length:=by
   by_cases h:k<l.length
   ·exact h
   ·exact absurd hk (Cg (by omega))
  rcases h2 k Hx with h | ⟨h3,h4⟩
  ·have:=wA.2 hk; rw [h] at this; cases this
  ·refine ⟨fun h=>?_,fun h=>h4.resolve_left (by omega)⟩
   have:=uW.2 h; rw [h3] at this; cases this
 ·rintro ⟨h1,h2⟩
  refine ⟨h1,fun k hk=>?_⟩
  cases gD:okB l k with
  | false=>exact .inl rfl
  | true =>
   right
   have:=h2 k (wA.1 gD)
   refine ⟨?_,?_⟩
   ·cases hd:BR l cl i k with
    | false=>rfl
    | true=>exact absurd (uW.1 hd) this.1
   ·by_cases h:k<i
    ·exact .inr (this.2 h)
    ·exact .inl h
def RD (l:List aL) (a b:Int):Bool:=match l[a.toNat]?,l[b.toNat]? with
 | some x,some y=>decide (hJ x y<0)
 | _,_=>false
theorem rU {l:List aL} {a b:Int}:RD l a b=true ↔ kZ l a b:=by
 unfold RD kZ
 cases l[a.toNat]? with
 | none=>simp
 | some x=>cases l[b.toNat]? with
  | none=>simp
  | some y=>simp
def jD (l:List aL) (cl:List Int):List Int:=pU (RD l) (((List.range l.length).filter (nD l cl)).map Int.ofNat)
theorem nB (l:List aL) (cl:List Int):kI l cl (jD l cl):=by
 have gI:∀ i,i ∈ ((List.range l.length).filter (nD l cl)).map Int.ofNat ↔ 0≤i∧counts l cl i.toNat:=fun i=>by
  simp only [List.mem_map,List.mem_filter,List.mem_range,qP]
  constructor
  ·rintro ⟨k,⟨h1,h2⟩,rfl⟩; exact ⟨by simp,by simpa using h2⟩
  ·rintro ⟨h1,h2⟩; exact ⟨i.toNat,⟨j8 h2,h2⟩,by simp; omega⟩
 constructor
 ·have:=lY (lt:=RD l) (l:=((List.range l.length).filter (nD l cl)).map Int.ofNat) (fun a _ b _ c _ h1 h2=>by rw [rU] at *; exact oY l a b c h1 h2) (by
   rw [List.pairwise_map]
   refine List.Pairwise.imp_of_mem (fun {a b} ha hb mj=>?_) ((List.pairwise_lt_range (n:=l.length)).filter _)
   rw [rU,rU]
   simp only [List.mem_filter,qP] at ha hb
   exact oJ ha.2 hb.2 (by omega))
  exact this.imp fun h=>rU.1 h
 ·intro i
  rw [jD,gW.mem_iff]; exact gI i
def oH (l:List aL) (cl:List Int):List Int × Int:=if l.length ≠ cl.length then ([],1) else if 300<(jD l cl).length then ([],3) else (jD l cl,0)
theorem uU (l:List aL) (cl:List Int):Canon l cl (oH l cl):=by
 unfold Canon oH
 split
 ·rfl
 ·exact ⟨jD l cl,nB l cl,rfl⟩
theorem xz {F:Nat} (hF:10≤F) {l:List aL} {cl:List Int} (hb:l.length<1000000) (Ht:l.length<F):DO F l cl=some (oH l cl):=by
 obtain ⟨r,h1,h2⟩:=xA hF (cl:=cl) hb Ht
 rw [h1,h2.unique (uU l cl)]
theorem tP {F:Nat} {l:List aL} {cl:List Int} (hb:l.length<1000000) (Ht:l.length<F):DM F l cl=some (oH l cl):=by
 obtain ⟨r,h1,h2⟩:=tQ (cl:=cl) hb Ht
 rw [h1,h2.unique (uU l cl)]
structure Tp (t:aP):Prop where
 len:t.L.length≤600
 lo:0≤t.At
 hi:t.At≤600
theorem PU (l:List Int):∃ t,lH l=some t∧Tp t:=by
 unfold lH
 by_cases h:(l.length:Int) > 600
 ·simp only [h,decide_true,if_true]
  rw [show (600:Int)=((600:Nat):Int) from rfl,zn (by omega)]
  exact ⟨_,rfl,⟨by simp; omega,by simp,by simp⟩⟩
 ·simp only [h,decide_false,Bool.false_eq_true,if_false]
  exact ⟨_,rfl,⟨by simp; omega,by simp,by simp⟩⟩
theorem QK {t:aP} (h:Tp t):∃ x t',EC t=some (x,t')∧Tp t':=by
 have h1:=h.len; have h2:=h.lo; have h3:=h.hi
 unfold EC
 by_cases hc:t.At ≥ (t.L.length:Int)
 ·simp only [hc,decide_true,if_true]; exact ⟨_,_,rfl,h⟩
 ·simp only [hc,decide_false,Bool.false_eq_true,if_false]
  rw [cX (n:=t.At+1) (by omega) (by omega),cX (by omega) (by omega)]
  have hx:idx t.L (t.At+1 - 1)=some t.L[t.At.toNat]:=by
   rw [js,show t.At+1 - 1=t.At by omega]
   exact ⟨h2,by simp⟩
  rw [hx]
  exact ⟨_,_,rfl,⟨h1,by simp; omega,by simp; omega⟩⟩
theorem Nn (x n:Int) (hn:n≤1000000000):∃ r,na x n=some r∧0≤r∧(1≤n→r<n)∧(n<1→r=0):=by
 unfold na
 by_cases h:n<1
 ·simp only [h,decide_true,if_true]; exact ⟨0,rfl,by omega,by omega,by omega⟩
 ·simp only [h,decide_false,Bool.false_eq_true,if_false]
  have hr:QN x n=some (x.tmod n):=by unfold QN; rw [if_neg (by omega)]
  simp only [hr,Option.bind_some]
  have b1:x.tmod n<n:=Int.tmod_lt_of_pos x (by omega)
  have b2:-n<x.tmod n:=by
   have:=Int.lt_tmod_of_pos x (show 0<n by omega)
   omega
  by_cases h0:x.tmod n<0
  ·simp only [h0,decide_true,if_true]
   rw [cX (by omega) (by omega)]
   exact ⟨_,rfl,by omega,fun _=>by omega,fun hh=>hh.elim⟩
  ·simp only [h0,decide_false,Bool.false_eq_true,if_false]
   exact ⟨_,rfl,by omega,fun _=>by omega,fun hh=>hh.elim⟩
theorem tl {t:aP} (h:Tp t) (n:Int) (hn:n≤1000000000):∃ x t',jg t n=some (x,t')∧Tp t'∧0≤x∧(1≤n→x<n)∧(n<1→x=0):=by
 obtain ⟨x,t',h1,h2⟩:=QK h
 obtain ⟨r,h3,h4⟩:=Nn x n hn
 exact ⟨r,t',by simp [jg,h1,h3],h2,h4⟩
theorem rZ {t:aP} (h:Tp t) (a b:Int) (ha:-1000≤a) (mj:a≤b) (hb:b≤100000000):∃ x t',kU t a b=some (x,t')∧Tp t'∧a≤x∧x≤b:=by
 obtain ⟨x,t',h1,h2,h3,h4,_⟩:=tl h (b - a+1) (by omega)
 refine ⟨a+x,t',?_,h2,by omega,by have:=h4 (by omega); omega⟩
 have:=h4 (by omega)
 simp only [kU]
 rw [cX (n:=b - a) (by omega) (by omega),cX (n:=b - a+1) (by omega) (by omega),h1]
 simp only [Option.bind_some]
 rw [cX (by omega) (by omega)]
theorem JN {t:aP} (h:Tp t) (n:Int) (hn:n≤1000000000):∃ b t',oz t n=some (b,t')∧Tp t':=by
 obtain ⟨x,t',h1,h2,_⟩:=tl h n hn
 exact ⟨(x == i64 (n - 1)),t',by simp only [oz,h1,Option.bind_some],h2⟩
theorem Gm {t:aP} (h:Tp t) (l:List Int) (hl:1≤l.length) (B5:l.length≤1000):∃ x t',uw t l=some (x,t')∧Tp t'∧x ∈ l:=by
 obtain ⟨x,t',h1,h2,h3,h4,_⟩:=tl h l.length (by omega)
 have:=h4 (by omega)
 have hx:idx l x=some l[x.toNat]:=by rw [js]; exact ⟨h3,by simp⟩
 exact ⟨l[x.toNat],t',by simp only [uw,h1,Option.bind_some,hx],h2,by simp⟩
theorem Hl {t:aP} (h:Tp t):∃ x t',sj t=some (x,t')∧Tp t':=by
 obtain ⟨x,t',h1,h2,_⟩:=Gm h [(-1),0,1,2,31,32,99,100,200,201,9999,10000,1000000,1000001,1152921504606846976,1152921504606846977,(-1152921504606846976),9223372036854775807,(-9223372036854775808)] (by simp) (by simp)
 exact ⟨x,t',by simp only [sj,h1,Option.bind_some],h2⟩
theorem He {t:aP} (h:Tp t):Tp (aP.mk t.L t.At):=h
theorem Hf {t:aP} (h:Tp t) (n:Int) (hn:n≤1000000):∃ x t',CI t n=some (x,t')∧Tp t':=by
 obtain ⟨a,t1,a1,a2,_⟩:=rZ h 0 24 (by omega) (by omega) (by omega)
 obtain ⟨b,t2,b1,b2,_⟩:=rZ a2 0 3 (by omega) (by omega) (by omega)
 obtain ⟨c,t3,c1,c2,_⟩:=rZ b2 0 9 (by omega) (by omega) (by omega)
 simp only [CI,a1,b1,c1,Option.bind_some]
 by_cases hp:n > 0
 ·obtain ⟨d,t4,d1,d2⟩:=JN c2 n (by omega)
  simp only [hp,decide_true,if_true,d1,Option.bind_some]
  cases d with
  | false=>exact ⟨_,_,rfl,He d2⟩
  | true =>
   obtain ⟨e,t5,e1,e2,_⟩:=tl (He d2) 3 (by omega)
   obtain ⟨w,t6,w1,w2⟩:=Hl e2
   simp only [if_true,e1,w1,Option.bind_some]
   split
   ·exact ⟨_,_,rfl,w2⟩
   ·split
    ·exact ⟨_,_,rfl,w2⟩
    ·exact ⟨_,_,rfl,w2⟩
 ·simp only [hp,decide_false,Bool.false_eq_true,if_false,Option.bind_some]
  exact ⟨_,_,rfl,He c2⟩
end Go.Sh
namespace Go.Sh
open Go.L
def Al {E:Type} (st:E→aL) (l:List E) (e:E):Prop:=e ∈ l∧(st e).qs=true∧∀ e' ∈ l,(st e').qs=true→HC (st e') (st e)→e'=e
structure xu {E:Type} (st:E→aL) (l C:List E):Prop where
 sorted:C.Pairwise fun a b=>hJ (st a) (st b)<0
 mem:∀ e,e ∈ C ↔ Al st l e
theorem xu.unique {E:Type} {st:E→aL} {l C D:List E} (h:xu st l C) (h':xu st l D):C=D :=
 pe (R:=fun a b=>hJ (st a) (st b)<0) (fun a h=>by rw [iu] at h; omega) (fun a b c h1 h2=>by rw [iu] at *; omega) h.sorted h'.sorted fun e=>by rw [h.mem,h'.mem]
theorem Al.congr {E:Type} {st:E→aL} {l m:List E} (h:∀ e,e ∈ l ↔ e ∈ m) (e:E):Al st l e ↔ Al st m e:=by
 unfold Al; simp only [h]
theorem xu.congr {E:Type} {st:E→aL} {l m C:List E} (h:∀ e,e ∈ l ↔ e ∈ m) (hC:xu st l C):xu st m C :=
 ⟨hC.sorted,fun e=>by rw [hC.mem,Al.congr h]⟩
structure sg {E:Type} (st:E→aL) (l:List E) (cl:List Int):Prop where
 len:l.length=cl.length
 iff:∀ (i:Nat) (x:E) (c:Int),l[i]?=some x→cl[i]?=some c →
  ((∀ (k:Nat) (y:E) (d:Int),l[k]?=some y→cl[k]?=some d→st y=st x→d=c) ↔ (∀ y ∈ l,st y=st x→y=x))
theorem D2 {x y:aL} (h1:x.Time=y.Time) (h2:x.Source=y.Source) (h3:x.Seq=y.Seq):x=y:=by
 cases x; cases y; simp_all
theorem sz {E:Type} {st:E→aL} {l:List E} {cl:List Int} (h:sg st l cl) {i:Nat} {x:E} (hx:l[i]?=some x) :
  counts (l.map st) cl i ↔ Al st l x∧∀ k,k<i→l[k]? ≠ some x:=by
 have hi:i<l.length:=(List.getElem?_eq_some_iff.1 hx).1
 have gx:i<cl.length:=by have:=h.len; omega
 obtain ⟨c,hc⟩:∃ c,cl[i]?=some c:=⟨cl[i],by simp [gx]⟩
 have key:=h.iff i x c hx hc
 have Hw:(l.map st)[i]?=some (st x):=by simp [hx]
 have lO:∀ (k:Nat) (y:E),l[k]?=some y→∃ d,cl[k]?=some d:=fun k y hy=>by
  have:k<l.length:=(List.getElem?_eq_some_iff.1 hy).1
  have hk:k<cl.length:=by have:=h.len; omega
  exact ⟨cl[k],by simp [hk]⟩
 constructor
 ·rintro ⟨⟨x',h1,h2⟩,h3⟩
  rw [Hw] at h1; cases h1
  have my:∀ (k:Nat) (y:E) (d:Int),l[k]?=some y→cl[k]?=some d→(st y).qs=true→HC (st y) (st x)→(st y).Time=(st x).Time∧d=c:=fun k y d hy hd hg hs=>by
   have hk:(l.map st)[k]?=some (st y):=by simp [hy]
   have:=(h3 k ⟨st y,hk,hg⟩).1
   apply Classical.byContradiction
   intro hn
   refine this ⟨st x,st y,c,d,Hw,hk,hc,hd,⟨hs.1.symm,hs.2.symm⟩,?_⟩
   by_cases ht:(st x).Time=(st y).Time
   ·exact .inr fun VM=>hn ⟨ht.symm,VM.symm⟩
   ·exact .inl ht
  have heq:∀ y ∈ l,st y=st x→y=x:=key.1 fun k y d hy hd hs=>(my k y d hy hd (by rw [hs]; exact h2) (by rw [hs]; exact ⟨rfl,rfl⟩)).2
  refine ⟨⟨List.mem_of_getElem? hx,h2,fun y hy hg hs=>?_⟩,fun k hk V4=>?_⟩
  ·obtain ⟨k,hk⟩:=List.getElem?_of_mem hy
   obtain ⟨d,hd⟩:=lO k y hk
   exact heq y hy (D2 (my k y d hk hd hg hs).1 hs.1 hs.2)
  ·have UM:(l.map st)[k]?=some (st x):=by simp [V4]
   exact (h3 k ⟨st x,UM,h2⟩).2 hk (by rw [UM,Hw])
 ·rintro ⟨⟨h1,h2,h3⟩,h4⟩
  refine ⟨⟨st x,Hw,h2⟩,fun k hk=>⟨?_,fun xT he=>?_⟩⟩
  ·rintro ⟨x',y',c',d,a1,a2,a3,a4,a5,a6⟩
   rw [Hw] at a1; cases a1
   rw [hc] at a3; cases a3
   simp only [List.getElem?_map,Option.map_eq_some_iff] at a2
   obtain ⟨y,hy,rfl⟩:=a2
   have VW:(st y).qs=true:=by
    obtain ⟨z,b1,b2⟩:=hk
    simp only [List.getElem?_map,hy,Option.map_some,Option.some.injEq] at b1
    rw [b1]; exact b2
   have HA:y=x:=h3 y (List.mem_of_getElem? hy) VW ⟨a5.1.symm,a5.2.symm⟩
   subst HA
   rcases a6 with a6 | a6
   ·exact a6 rfl
   ·refine a6 (key.2 (fun z hz U2=>h3 z hz (by rw [U2]; exact h2) (by rw [U2]; exact ⟨rfl,rfl⟩)) k y d hy a4 rfl).symm
  ·obtain ⟨z,b1,b2⟩:=hk
   rw [b1,Hw] at he
   cases he
   simp only [List.getElem?_map,Option.map_eq_some_iff] at b1
   obtain ⟨y,hy,HA⟩:=b1
   have:y=x:=h3 y (List.mem_of_getElem? hy) (by rw [HA]; exact h2) (by rw [HA]; exact ⟨rfl,rfl⟩)
   subst this
   exact h4 k xT hy
theorem qS {E:Type} [DecidableEq E] {x:E}:∀ {l:List E},x ∈ l→∃ i:Nat,l[i]?=some x∧∀ k,k<i→l[k]? ≠ some x
  | [],h=>by simp at h
  | y :: r,h=>by
    by_cases lD:y=x
    · exact ⟨0,by simp [lD],by omega⟩
    · have hr : x ∈ r := by rcases List.mem_cons.1 h with h | h
                            · exact absurd h.symm lD
                            · exact h
      obtain ⟨i,h1,h2⟩:=qS hr
      refine ⟨i+1,by simpa using h1,fun k hk=>?_⟩
      cases k with
      | zero=>simpa using lD
      | succ k=>simpa using h2 k (by omega)
def hZ {E:Type} (l:List E) (a:List Int):List E:=a.filterMap fun i=>l[i.toNat]?
theorem nP {E:Type} {l:List E}:∀ {a:List Int},(∀ i ∈ a,i.toNat<l.length)→(hZ l a).length=a.length
 | [],_=>rfl
 | i :: a,h=>by
  have hi:=h i (by simp)
  have:=nP (l:=l) (a:=a) fun j hj=>h j (by simp [hj])
  simp only [hZ] at this
  simp [hZ,hi,this]
theorem B8 {E:Type} [DecidableEq E] {st:E→aL} {l:List E} {cl:List Int} (h:sg st l cl) {a:List Int} (ha:kI (l.map st) cl a):xu st l (hZ l a):=by
 have ec:∀ i ∈ a,i.toNat<l.length:=fun i hi=>by have:=j8 ((ha.mem i).1 hi).2; simpa using this
 refine ⟨?_,fun e=>?_⟩
 ·unfold hZ
  rw [List.pairwise_filterMap]
  refine List.Pairwise.imp_of_mem (fun {i j} hi hj rQ=>?_) ha.sorted
  intro x hx y hy
  obtain ⟨p,q,h1,h2,h3⟩:=rQ
  simp only [List.getElem?_map,Option.map_eq_some_iff] at h1 h2
  obtain ⟨x',h4,rfl⟩:=h1
  obtain ⟨y',h5,rfl⟩:=h2
  simp_all
 ·simp only [hZ,List.mem_filterMap]
  constructor
  ·rintro ⟨i,hi,hx⟩
   exact ((sz h hx).1 ((ha.mem i).1 hi).2).1
  ·intro he
   obtain ⟨i,h1,h2⟩:=qS he.1
   exact ⟨(i:Int),(ha.mem _).2 ⟨by omega,by simpa using (sz h h1).2 ⟨he,h2⟩⟩,by simpa using h1⟩
def mL {E:Type} [DecidableEq E] (l:List E):List Int:=l.map fun x=>(l.findIdx (fun y=>decide (y=x)):Int)
theorem vW {E:Type} [DecidableEq E] (st:E→aL) (l:List E):sg st l (mL l):=by
 refine ⟨by simp [mL],fun i x c hx hc=>?_⟩
 have I8:c=(l.findIdx (fun y=>decide (y=x)):Int):=by simp [mL,hx] at hc; exact hc.symm
 constructor
 ·intro h y hy hs
  obtain ⟨k,hk⟩:=List.getElem?_of_mem hy
  have:=h k y (l.findIdx (fun z=>decide (z=y)):Int) hk (by simp [mL,hk]) hs
  rw [I8] at this
  have hf:l.findIdx (fun z=>decide (z=y))=l.findIdx (fun z=>decide (z=x)):=by omega
  have ec:l.findIdx (fun z=>decide (z=x))<l.length:=List.findIdx_lt_length_of_exists ⟨x,List.mem_of_getElem? hx,by simp⟩
  have e1:=List.findIdx_getElem (xs:=l) (p:=fun z=>decide (z=x)) (w:=ec)
  have K4:l.findIdx (fun z=>decide (z=y))<l.length:=by rw [hf]; exact ec
  have e2:=List.findIdx_getElem (xs:=l) (p:=fun z=>decide (z=y)) (w:=K4)
  simp only [decide_eq_true_eq] at e1 e2
  rw [← e1,← e2]
  simp only [hf]
 ·intro h k y d hy hd hs
  have:=h y (List.mem_of_getElem? hy) hs
  subst this
  simp [mL,hy] at hd
  rw [I8,← hd]
def sx {E:Type} [DecidableEq E] (st:E→aL) (l:List E):List Int:=l.map fun x=>if l.find? (fun y=>decide (st y=st x))=some x then 0 else 1
theorem BQ {E:Type} [DecidableEq E] (st:E→aL) (l:List E):sg st l (sx st l):=by
 refine ⟨by simp [sx],fun i x c hx hc=>?_⟩
 have I8:c=if l.find? (fun y=>decide (st y=st x))=some x then 0 else 1:=by simp [sx,hx] at hc; exact hc.symm
 obtain ⟨f,hf⟩:∃ f,l.find? (fun y=>decide (st y=st x))=some f:=by
  cases h:l.find? (fun y=>decide (st y=st x)) with
  | none=>rw [List.find?_eq_none] at h; exact absurd (h x (List.mem_of_getElem? hx)) (by simp)
  | some f=>exact ⟨f,rfl⟩
 have UK:st f=st x:=by simpa using List.find?_some hf
 have VR:f ∈ l:=List.mem_of_find?_eq_some hf
 have UH:∀ y,st y=st x→l.find? (fun z=>decide (st z=st y))=some f:=fun y hy=>by rw [hy]; exact hf
 constructor
 ·intro h
  obtain ⟨k,hk⟩:=List.getElem?_of_mem VR
  have h0:=h k f 0 hk (by simp [sx,hk,UH f UK]) UK
  have my:∀ y ∈ l,st y=st x→y=f:=fun y hy hs=>by
   obtain ⟨j,hj⟩:=List.getElem?_of_mem hy
   have:=h j y _ hj (by simp only [sx,List.getElem?_map,hj,Option.map_some]; rfl) hs
   rw [← h0,UH y hs] at this
   by_cases he:f=y
   ·exact he.symm
   ·rw [if_neg (by simpa using he)] at this; omega
  intro y hy hs
  rw [my y hy hs,my x (List.mem_of_getElem? hx) rfl]
 ·intro h k y d hy hd hs
  have:=h y (List.mem_of_getElem? hy) hs
  subst this
  simp only [sx,List.getElem?_map,hy,Option.map_some,Option.some.injEq] at hd
  rw [I8,← hd]
def Hs {E:Type} [DecidableEq E] (st:E→aL) (l:List E):List E:=hZ l (jD (l.map st) (mL l))
theorem ET {E:Type} [DecidableEq E] (st:E→aL) (l:List E):xu st l (Hs st l):=B8 (vW st l) (nB _ _)
theorem EU {E:Type} [DecidableEq E] {st:E→aL} {l:List E} {cl:List Int} (h:sg st l cl):hZ l (jD (l.map st) cl)=Hs st l :=
 (B8 h (nB _ _)).unique (ET st l)
theorem qp {l:List aL} {cl:List Int} {i:Int} (h:i ∈ jD l cl):0≤i∧i.toNat<l.length:=by
 have:=((nB l cl).mem i).1 h; exact ⟨this.1,j8 this.2⟩
theorem BY {E:Type} [DecidableEq E] {st:E→aL} {l:List E} {cl:List Int} (h:sg st l cl):(jD (l.map st) cl).length=(Hs st l).length:=by
 rw [← EU h,nP]
 intro i hi; have:=(qp hi).2; simpa using this
theorem uT {E:Type} [DecidableEq E] {st:E→aL} {l:List E} {cl:List Int} (h:sg st l cl):oH (l.map st) cl=if 300<(Hs st l).length then ([],3) else (jD (l.map st) cl,0):=by
 have h1:=h.len
 unfold oH
 rw [if_neg (by simpa using h1),BY h]
theorem Dm {α:Type} {lt:α→α→Bool} (l:List α):(pU lt l).length=l.length:=gW.length_eq
theorem oG (l:List aL) (cl:List Int):(jD l cl).length≤l.length:=by
 unfold jD
 rw [Dm,List.length_map]
 have:=List.length_filter_le (nD l cl) (List.range l.length)
 simpa using this
theorem Kw {E:Type} [DecidableEq E] (st:E→aL) (l:List E):(Hs st l).length≤l.length:=by
 rw [← BY (vW st l)]
 have:=oG (l.map st) (mL l)
 simpa using this
def gO {E:Type} [DecidableEq E] (st:E→aL) (l:List E):List E × Int:=if 300<(Hs st l).length then ([],3) else (Hs st l,0)
end Go.Sh
namespace Go.Sh
open Go.L
def run {α σ R:Type} (g:Nat→α→σ→R ⊕ σ) (e:σ→R):Nat→List α→σ→R
 | _,[],s=>e s
 | i,x :: l,s=>match g i x s with | .inl r=>r | .inr s'=>run g e (i+1) l s'
theorem IF {α σ R:Type} {a:List α} {L:Nat→Int→σ→Option R} (g:Nat→α→σ→R ⊕ σ) (e:σ→R) (I:Nat→σ→Prop) (hb:a.length<1000000)
  (hS:∀ n (i:Nat) x s,a[i]?=some x→I i s→(match g i x s with | .inl r=>L (n+1) (i:Int) s=some r | .inr s'=>L (n+1) (i:Int) s=L n ((i+1:Nat):Int) s'∧I (i+1) s'))
  (hE:∀ n s,I a.length s→L (n+1) (a.length:Int) s=some (e s)) :
  ∀ (l p:List α) (n:Nat) (s:σ),a=p++l→l.length<n→I p.length s→L n (p.length:Int) s=some (run g e p.length l s):=by
 intro l
 induction l with
 | nil=>intro p n s hp hn hI; cases n with
  | zero=>omega
  | succ n =>
   have:a=p:=by simpa using hp
   subst this
   rw [hE n s hI]; rfl
 | cons x l ih=>intro p n s hp hn hI; cases n with
  | zero=>omega
  | succ n =>
   have hx:a[p.length]?=some x:=by rw [hp]; simp
   have:=hS n p.length x s hx hI
   unfold run
   cases hg:g p.length x s with
   | inl r=>rw [hg] at this; exact this
   | inr s' =>
    rw [hg] at this
    obtain ⟨h1,h2⟩:=this
    rw [h1]
    have e1:p.length+1=(p++[x]).length:=by simp
    rw [e1] at h2 ⊢
    exact ih (p++[x]) n s' (by rw [hp]; simp) (by simpa using hn) h2
theorem G1 {α σ R:Type} {a:List α} {L:Nat→Int→σ→Option R} (g:Nat→α→σ→R ⊕ σ) (e:σ→R) (I:Nat→σ→Prop) {s0:σ} {F:Nat} (hb:a.length<1000000)
  (hS:∀ n (i:Nat) x s,a[i]?=some x→I i s→(match g i x s with | .inl r=>L (n+1) (i:Int) s=some r | .inr s'=>L (n+1) (i:Int) s=L n ((i+1:Nat):Int) s'∧I (i+1) s'))
  (hE:∀ n s,I a.length s→L (n+1) (a.length:Int) s=some (e s)) (hF:a.length<F) (h0:I 0 s0):L F 0 s0=some (run g e 0 a s0) :=
 IF g e I hb hS hE a [] F s0 rfl hF h0
def scan {α R:Type} (g:Nat→α→Option R) (e:R):Nat→List α→R
 | _,[]=>e
 | i,x :: l=>match g i x with | some r=>r | .none=>scan g e (i+1) l
theorem gn {α R:Type} {a:List α} {L:Nat→Int→Option R} (g:Nat→α→Option R) (e:R) {F:Nat} (hb:a.length<1000000)
  (hS:∀ n (i:Nat) x,a[i]?=some x→i<1000000→L (n+1) (i:Int)=match g i x with | some r=>some r | .none=>L n ((i+1:Nat):Int))
  (hE:∀ n,L (n+1) (a.length:Int)=some e) (hF:a.length<F):L F 0=some (scan g e 0 a):=by
 have key:∀ (l p:List α) (n:Nat),a=p++l→l.length<n→L n (p.length:Int)=some (scan g e p.length l):=by
  intro l
  induction l with
  | nil=>intro p n hp hn; cases n with
   | zero=>omega
   | succ n =>
    have:a=p:=by simpa using hp
    subst this
    rw [hE n]; rfl
  | cons x l ih=>intro p n hp hn; cases n with
   | zero=>omega
   | succ n =>
    have hx:a[p.length]?=some x:=by rw [hp]; simp
    have hl:p.length<1000000:=by rw [hp] at hb; simp at hb; omega
    rw [hS n p.length x hx hl]
    unfold scan
    cases hg:g p.length x with
    | some r=>rfl
    | none =>
     simp only
     have e1:p.length+1=(p++[x]).length:=by simp
     rw [e1]
     exact ih (p++[x]) n (by rw [hp]; simp) (by simpa using hn)
 exact key a [] F rfl hF
theorem tZ {α:Type} (f:α→Bool):∀ (l:List α) (i:Nat),scan (fun _ x=>if f x=true then .none else some false) true i l=l.all f
 | [],i=>rfl
 | x :: l,i=>by
  unfold scan
  rw [List.all_cons]
  cases hf:f x with
  | true=>simp [tZ f l]
  | false=>simp
theorem BK {α:Type} {a:List α} {L:Nat→Int→Option Bool} (f:α→Bool) {F:Nat} (hb:a.length<1000000)
  (hS:∀ n (i:Nat) x,a[i]?=some x→i<1000000→L (n+1) (i:Int)=if f x=true then L n ((i+1:Nat):Int) else some false)
  (hE:∀ n,L (n+1) (a.length:Int)=some true) (hF:a.length<F):L F 0=some (a.all f):=by
 rw [gn (fun _ x=>if f x=true then .none else some false) true hb (fun n i x hx hi=>?_) hE hF,tZ]
 rw [hS n i x hx hi]
 cases f x <;> rfl
theorem CB {α:Type} [DecidableEq α]:∀ (l m p:List α),l.length=m.length→scan (fun i x=>if (p++m)[i]?=some x then .none else some false) true p.length l=decide (l=m)
 | [],[],p,_=>rfl
 | x :: l,y :: m,p,h=>by
  unfold scan
  have e:(p++y :: m)[p.length]?=some y:=by simp
  rw [e]
  by_cases lD:x=y
  ·subst lD
   simp only [if_true,List.cons.injEq,true_and]
   have:=CB l m (p++[x]) (by simpa using h)
   simpa using this
  ·have:¬ (some y=some x):=fun hh=>lD (Option.some.inj hh).symm
   simp [this,lD]
theorem ua {α:Type} [DecidableEq α]:∀ (l m p:List α) (e:Bool),l.length=m.length→scan (fun i x=>if (p++m)[i]?=some x then .none else some false) e p.length l=(decide (l=m) && e)
 | [],[],p,e,_=>by simp [scan]
 | x :: l,y :: m,p,e,h=>by
  unfold scan
  have e1:(p++y :: m)[p.length]?=some y:=by simp
  rw [e1]
  by_cases lD:x=y
  ·subst lD
   simp only [if_true,List.cons.injEq,true_and]
   have:=ua l m (p++[x]) e (by simpa using h)
   simpa using this
  ·have:¬ (some y=some x):=fun hh=>lD (Option.some.inj hh).symm
   simp [this,lD]
theorem vY {α:Type} [DecidableEq α] {a b:List α} {L:Nat→Int→Option Bool} {F:Nat} (hl:a.length=b.length) (hb:a.length<1000000)
  (hS:∀ n (i:Nat) x y,a[i]?=some x→b[i]?=some y→i<1000000→L (n+1) (i:Int)=if x=y then L n ((i+1:Nat):Int) else some false)
  (hE:∀ n,L (n+1) (a.length:Int)=some true) (hF:a.length<F):L F 0=some (decide (a=b)):=by
 rw [gn (fun i x=>if b[i]?=some x then .none else some false) true hb (fun n i x hx hi=>?_) hE hF]
 ·exact congrArg some (CB a b [] hl)
 ·have gx:i<b.length:=by rw [← hl]; exact (List.getElem?_eq_some_iff.1 hx).1
  rw [hS n i x b[i] hx (by simp [gx]) hi]
  by_cases h:x=b[i]
  ·simp [h,gx]
  ·have:¬ (b[i]?=some x):=fun hh=>by rw [List.getElem?_eq_getElem gx] at hh; exact h (Option.some.inj hh).symm
   simp [h,this]
theorem jT {α:Type} {a:List α} {i:Nat} {x:α} (h:a[i]?=some x):decide ((i:Int)<(a.length:Int))=true:=by
 have:=(List.getElem?_eq_some_iff.1 h).1; simp; omega
theorem jE (n:Nat):decide ((n:Int)<(n:Int))=false:=by simp
theorem jr {α:Type} {a:List α} {i:Nat} {x:α} (h:a[i]?=some x):idx a (i:Int)=some x:=by rw [nH,h]
theorem jJ {i:Nat} (h:i<1000000):i64 ((i:Int)+1)=((i+1:Nat):Int):=by rw [cX (by omega) (by omega)]; rfl
theorem xD {α β R:Type} {a:List α} {L:Nat→Int→List β→Option R} (f:α→β) (e:List β→R) {z:β} {F:Nat}
  (hS:∀ n (i:Nat) x (l l':List β),a[i]?=some x→l.length=i→L (n+1) (i:Int) (l++z :: l')=L n ((i+1:Nat):Int) (l++f x :: l'))
  (hE:∀ n l,L (n+1) (a.length:Int) l=some (e l)) (hF:a.length<F):L F 0 (List.replicate a.length z)=some (e (a.map f)):=by
 have key:∀ (s p:List α) (n:Nat),a=p++s→s.length<n→L n (p.length:Int) (p.map f++List.replicate s.length z)=some (e (a.map f)):=by
  intro s
  induction s with
  | nil=>intro p n hp hn; cases n with
   | zero=>omega
   | succ n =>
    have:a=p:=by simpa using hp
    subst this
    rw [hE n]; simp
  | cons x s ih=>intro p n hp hn; cases n with
   | zero=>omega
   | succ n =>
    have hx:a[p.length]?=some x:=by rw [hp]; simp
    rw [List.length_cons,List.replicate_succ,hS n p.length x (p.map f) (List.replicate s.length z) hx (by simp)]
    have e1:p.map f++f x :: List.replicate s.length z=(p++[x]).map f++List.replicate s.length z:=by simp
    have e2:p.length+1=(p++[x]).length:=by simp
    rw [e1,e2]
    exact ih (p++[x]) n (by rw [hp]; simp) (by simpa using hn)
 exact key a [] F rfl hF
theorem qD {α:Type} {f:Nat→α→Bool} {e:Bool}:∀ (l:List α) (i:Nat),(scan (fun i x=>if f i x=true then .none else some false) e i l=true ↔ e=true∧∀ (j:Nat) x,l[j]?=some x→f (i+j) x=true)
 | [],i=>by simp [scan]
 | x :: l,i=>by
  unfold scan
  cases hf:f i x with
  | false =>
   simp only [Bool.false_eq_true,if_false]
   constructor
   ·intro h; cases h
   ·rintro ⟨_,h⟩; have:=h 0 x rfl; rw [Nat.add_zero,hf] at this; cases this
  | true =>
   simp only [if_true]
   rw [qD l (i+1)]
   constructor
   ·rintro ⟨h1,h2⟩
    refine ⟨h1,fun j y hy=>?_⟩
    cases j with
    | zero=>simp at hy; subst hy; exact hf
    | succ j=>have:=h2 j y (by simpa using hy); rw [← this]; congr 1; omega
   ·rintro ⟨h1,h2⟩
    refine ⟨h1,fun j y hy=>?_⟩
    have:=h2 (j+1) y (by simpa using hy)
    rw [← this]; congr 1; omega
def vH {α R:Type} (g:Nat→α→Option R) (e:Option R):Nat→List α→Option R
 | _,[]=>e
 | i,x :: l=>match g i x with | some r=>some r | .none=>vH g e (i+1) l
theorem kb {α R:Type} {a:List α} {L:Nat→Int→Option R} (g:Nat→α→Option R) (e:Option R) {F:Nat} (hb:a.length<1000000)
  (hS:∀ n (i:Nat) x,a[i]?=some x→i<1000000→L (n+1) (i:Int)=match g i x with | some r=>some r | .none=>L n ((i+1:Nat):Int))
  (hE:∀ n,L (n+1) (a.length:Int)=e) (hF:a.length<F):L F 0=vH g e 0 a:=by
 have key:∀ (l p:List α) (n:Nat),a=p++l→l.length<n→L n (p.length:Int)=vH g e p.length l:=by
  intro l
  induction l with
  | nil=>intro p n hp hn; cases n with
   | zero=>omega
   | succ n =>
    have:a=p:=by simpa using hp
    subst this
    rw [hE n]; rfl
  | cons x l ih=>intro p n hp hn; cases n with
   | zero=>omega
   | succ n =>
    have hx:a[p.length]?=some x:=by rw [hp]; simp
    have hl:p.length<1000000:=by rw [hp] at hb; simp at hb; omega
    rw [hS n p.length x hx hl]
    unfold vH
    cases hg:g p.length x with
    | some r=>rfl
    | none =>
     simp only
     have e1:p.length+1=(p++[x]).length:=by simp
     rw [e1]
     exact ih (p++[x]) n (by rw [hp]; simp) (by simpa using hn)
 exact key a [] F rfl hF
def allI {α:Type} (f:Nat→α→Bool) (i:Nat) (l:List α):Bool:=scan (fun i x=>if f i x=true then .none else some false) true i l
theorem ku {α R:Type} (f:Nat→α→Bool) (c:R) (e:Option R):∀ (l:List α) (i:Nat),vH (fun i x=>if f i x=true then .none else some c) e i l=if allI f i l=true then e else some c
 | [],i=>rfl
 | x :: l,i=>by
  unfold vH allI scan
  cases hf:f i x with
  | true=>simp only [if_true]; exact ku f c e l (i+1)
  | false=>simp
theorem py {α:Type} (f:α→Bool) (l:List α) (i:Nat):allI (fun _ x=>f x) i l=l.all f:=tZ f l i
theorem zk {α:Type} (f:Nat→α→Bool) (e:Bool):∀ (l:List α) (i:Nat),scan (fun i x=>if f i x=true then .none else some false) e i l=(allI f i l && e)
 | [],i=>by simp [scan,allI]
 | x :: l,i=>by
  unfold allI scan
  cases hf:f i x with
  | true=>simp only [if_true]; exact zk f e l (i+1)
  | false=>simp
theorem I2 {a b:Bool} (h:a=true ↔ b=true):a=b:=by cases a <;> cases b <;> simp_all
end Go.Sh
namespace Go.Sh
open Go.L
def Hq (F:Nat) (x:ai):Prop:=(x.aH.length<1000000∧x.aH.length<F)∧(x.aF.length<1000000∧x.aF.length<F)
def qL (F:Nat) (l:List ax):Prop:=∀ e ∈ l,Hq F e.Item
theorem BX {F:Nat} {a b:List Int} (hb:a.length<1000000) (hF:a.length<F):Bb F a b=some (decide (a=b)):=by
 unfold Bb
 by_cases h:a.length=b.length
 ·have h1:((a.length:Int) != (b.length:Int))=false:=by simp [h]
  simp only [h1,Bool.false_eq_true,if_false]
  refine vY h hb (fun n i x y hx hy hi=>?_) (fun n=>?_) hF
  ·simp only [yB,DB,jT hx,if_true,jr hx,jr hy,Option.bind_some,jJ hi]
   by_cases lD:x=y <;> simp [lD]
  ·simp only [yB,DB,jE,Bool.false_eq_true,if_false]
 ·have h1:((a.length:Int) != (b.length:Int))=true:=by simp; omega
  have h2:a ≠ b:=fun mj=>h (by rw [mj])
  simp [h1,h2]
theorem ES {F:Nat} {a b:List aq} (hb:a.length<1000000) (hF:a.length<F):Gy F a b=some (decide (a=b)):=by
 unfold Gy
 by_cases h:a.length=b.length
 ·have h1:((a.length:Int) != (b.length:Int))=false:=by simp [h]
  simp only [h1,Bool.false_eq_true,if_false]
  refine vY h hb (fun n i x y hx hy hi=>?_) (fun n=>?_) hF
  ·simp only [DA,Gu,jT hx,if_true,jr hx,jr hy,Option.bind_some,jJ hi]
   by_cases lD:x=y <;> simp [lD]
  ·simp only [DA,Gu,jE,Bool.false_eq_true,if_false]
 ·have h1:((a.length:Int) != (b.length:Int))=true:=by simp; omega
  have h2:a ≠ b:=fun mj=>h (by rw [mj])
  simp [h1,h2]
theorem Ig {F:Nat} {a b:List Int}:vE F a b=Bb F a b:=by
 have h:∀ n,vu a b n=yB a b n:=fun n=>by
  induction n with
  | zero=>rfl
  | succ n ih=>show Cp a b (vu a b n)=DB a b (yB a b n); rw [ih]; rfl
 unfold vE Bb; rw [h]
theorem L0 {F:Nat} {a b:List Int} (hb:a.length<1000000) (hF:a.length<F):vE F a b=some (decide (a=b)):=by rw [Ig]; exact BX hb hF
theorem A1 {F:Nat} {a b:ai} (hl:a.aH.length=b.aH.length) (hb:a.aH.length<1000000) (hF:a.aH.length<F):∃ r,Ct F a b=some r∧(r=[] ↔ a.aH=b.aH):=by
 have key : ∀ (j n i : Nat) (r : List Int), i + j = a.aH.length → j < n → r.length ≤ i → ∃ q, Bl a b n (i : Int) r = some q ∧ (q = [] ↔ r = [] ∧ a.aH.drop i = b.aH.drop i) := by
  intro j
  induction j with
  | zero=>intro n i r hi hn hr; cases n with
   | zero=>omega
   | succ n =>
    have hm:max (a.aH.length:Int) (b.aH.length:Int)=(i:Int):=by rw [← hl]; omega
    simp only [Bl,GP,hm,jE,Bool.false_eq_true,if_false]
    refine ⟨r,rfl,?_⟩
    rw [List.drop_of_length_le (by omega),List.drop_of_length_le (by omega)]
    simp
  | succ j ih=>intro n i r hi hn hr; cases n with
   | zero=>omega
   | succ n =>
    have hm:decide ((i:Int)<max (a.aH.length:Int) (b.aH.length:Int))=true:=by simp; omega
    have h1:decide ((i:Int) ≥ (a.aH.length:Int))=false:=by simp; omega
    have h2:decide ((i:Int) ≥ (b.aH.length:Int))=false:=by simp; omega
    have i1:i<a.aH.length:=by omega
    have i2:i<b.aH.length:=by omega
    simp only [Bl,GP,hm,h1,h2,if_true,Bool.false_eq_true,if_false,dp i1,dp i2,Option.bind_some,jJ (show i<1000000 by omega)]
    rw [List.drop_eq_getElem_cons i1,List.drop_eq_getElem_cons i2]
    by_cases lD:a.aH[i]=b.aH[i]
    ·obtain ⟨q,q1,q2⟩:=ih n (i+1) r (by omega) (by omega) (by omega)
     refine ⟨q,?_,?_⟩
     ·simp only [lD,decide_true,Bool.not_true,Bool.false_eq_true,if_false]; exact q1
     ·rw [q2,lD]; simp only [List.cons.injEq,true_and]
    ·obtain ⟨q,q1,q2⟩:=ih n (i+1) (r++[(i:Int)]) (by omega) (by omega) (by simp; omega)
     refine ⟨q,?_,?_⟩
     ·simp only [lD,decide_false,Bool.not_false,if_true]
      rw [c9 (by simp; omega),Option.bind_some]; exact q1
     ·rw [q2]; simp only [List.cons.injEq,lD,false_and,and_false,List.append_eq_nil_iff,reduceCtorEq]
 obtain ⟨q,q1,q2⟩:=key a.aH.length F 0 [] (by omega) hF (by simp)
 exact ⟨q,q1,by rw [q2]; simp⟩
theorem tY {F:Nat} {a b:ai} (h:Hq F a):yQ F a b=some (decide (a=b)):=by
 unfold yQ
 rw [ES h.1.1 h.1.2,BX h.2.1 h.2.2]
 obtain ⟨i,v,s,p,e⟩:=a
 obtain ⟨i',v',s',p',e'⟩:=b
 simp only [ai.mk.injEq,decide_eq_true_eq,beq_iff_eq,Option.bind_some]
 by_cases h1:i=i'
 ·by_cases h2:v=v'
  ·by_cases h3:s=s'
   ·by_cases h4:p=p'
    ·simp [h1,h2,h3,h4]
    ·simp [h4]
   ·simp [h3]
  ·simp [h2]
 ·simp [h1]
theorem ra {F:Nat} {a b:ai} (h:Hq F a):vF F a b=some (decide (a=b)):=by
 unfold vF
 rw [L0 h.2.1 h.2.2]
 by_cases hl:a.aH.length=b.aH.length
 ·obtain ⟨r,r1,r2⟩:=A1 hl h.1.1 h.1.2
  have iN:((a.aH.length:Int) == (b.aH.length:Int))=true:=by simp [hl]
  have hr:((r.length:Int) == 0)=decide (a.aH=b.aH):=by
   rw [Bool.eq_iff_iff,beq_iff_eq,decide_eq_true_eq,← r2]
   constructor
   ·intro h; exact List.eq_nil_of_length_eq_zero (by omega)
   ·intro h; rw [h]; rfl
  rw [r1]
  simp only [iN,if_true,Option.bind_some,hr]
  obtain ⟨i,v,s,p,e⟩:=a
  obtain ⟨i',v',s',p',e'⟩:=b
  simp only [ai.mk.injEq,decide_eq_true_eq,beq_iff_eq,Option.bind_some]
  by_cases h1:i=i'
  ·by_cases h2:v=v'
   ·by_cases h3:s=s'
    ·by_cases h4:p=p'
     ·simp [h1,h2,h3,h4]
     ·simp [h4]
    ·simp [h3]
   ·simp [h2]
  ·simp [h1]
 ·have iN:((a.aH.length:Int) == (b.aH.length:Int))=false:=by simp; omega
  have eA:a ≠ b:=fun mj=>hl (by rw [mj])
  simp only [iN,Bool.false_eq_true,if_false,eA,decide_false]
  repeat' split
  all_goals rfl
theorem G5 {F:Nat} {a b:ax} (h:Hq F a.Item):iJ F a b=some (decide (a=b)):=by
 unfold iJ
 rw [tY h]
 obtain ⟨s,k,g,r,f⟩:=a
 obtain ⟨s',k',g',r',f'⟩:=b
 simp only [ax.mk.injEq,decide_eq_true_eq,beq_iff_eq,Option.bind_some]
 by_cases h1:s=s'
 ·by_cases h2:k=k'
  ·by_cases h3:r=r'
   ·by_cases h4:f=f'
    ·simp [h1,h2,h3,h4]
    ·simp [h4]
   ·simp [h3]
  ·simp [h2]
 ·simp [h1]
theorem IE {F:Nat} {a b:ax} (h:Hq F a.Item):y4 F a b=some (decide (a=b)):=by
 rw [← G5 h]; unfold y4 iJ; rw [ra h,tY h]
theorem kL {F:Nat} {x:ai} (h:Hq F x):y8 x=some x:=by
 unfold y8
 rw [c9 (by simp; have:=h.1.1; omega),Option.bind_some,c9 (by simp; have:=h.2.1; omega)]
 rfl
theorem u9 {α β:Type} [DecidableEq α] (k k':α) (v:β):∀ m:List (α × β),gU (ee m k v) k'=if k'=k then some v else gU m k'
  | [] => by simp only [ee, gU]; by_cases h : k = k'
             · simp [h]
             · simp [h,Ne.symm h]
  | (a,b) :: r=>by
    simp only [ee]
    by_cases h:a=k
    · subst h
      simp only [if_true,gU]
      by_cases h2:a=k'
      · simp [h2]
      · simp [h2,Ne.symm h2]
    · simp only [h,if_false,gU,u9 k k' v r]
      by_cases h2:a=k'
      · subst h2; simp [h]
      · simp [h2]
theorem F6 {i:Nat} (h:i<1000000000):i64 ((i:Int)+1)=((i+1:Nat):Int):=by rw [cX (by omega) (by omega)]; rfl
theorem lV {α:Type} {p:List α} {x:α} {s:List α} {n:Nat} (h:p.length=n):idx (p++x :: s) (n:Int)=some x:=by rw [← h]; exact jH p x s
theorem nR {α:Type} {p:List α} {x y:α} {s:List α} {n:Nat} (h:p.length=n):(p++x :: s).set (n:Int).toNat y=p++y :: s:=by
 simp [← h]
theorem split_loop {F0:List ax} {p1:ax→Option aL} {p2:ax→ax→Option Bool} (hb:F0.length<1000000) (h1:∀ a ∈ F0,p1 a=some a.ar) (h2:∀ a ∈ F0,∀ b ∈ F0,p2 a b=some (decide (a=b))) (z:aL) :
  ∀ (s p:List ax) (n:Nat) (m:List (aL × Int)),F0=p++s→s.length<n→(∀ x,gU m x=(p.findIdx? fun y=>decide (y.ar=x)).map Int.ofNat) →
   Ba F0 p1 p2 n (p.length:Int) (p.map (·.ar)++List.replicate s.length z) (p.map (fun x=>if F0.find? (fun y=>decide (y.ar=x.ar))=some x then 0 else 1)++List.replicate s.length 0) m
    = some (F0.map (·.ar),sx (·.ar) F0):=by
 intro s
 induction s with
 | nil =>
  intro p n m hp hn hm
  cases n with
  | zero=>omega
  | succ n =>
   have:F0=p:=by simpa using hp
   subst this
   simp only [Ba,Gt,Int.lt_irrefl,decide_false,Bool.false_eq_true,if_false,List.length_nil,List.replicate_zero,List.append_nil,sx]
 | cons x s ih =>
  intro p n m hp hn hm
  cases n with
  | zero=>omega
  | succ n =>
   have hx:x ∈ F0:=by rw [hp]; simp
   have hlen:p.length<1000000:=by rw [hp] at hb; simp at hb; omega
   have d1:decide ((p.length:Int)<(F0.length:Int))=true:=by rw [hp]; exact HL p x s
   have i1:idx F0 (p.length:Int)=some x:=by rw [hp]; exact jH p x s
   simp only [Ba,Gt,d1,if_true,i1,Option.bind_some,h1 x hx,List.length_cons,List.replicate_succ]
   rw [lV (by simp),nR (by simp),lV (by simp)]
   simp only [Option.bind_some,F6 (show p.length<1000000000 by omega),hm]
   have Fh:((p.length+1:Nat):Int)=((p++[x]).length:Int):=by simp
   have kG:p.map (·.ar)++x.ar :: List.replicate s.length z=(p++[x]).map (·.ar)++List.replicate s.length z:=by simp
   have hF:F0=(p++[x])++s:=by rw [hp]; simp
   have Sv:∀ q:ax→Bool,F0.find? q=((p.find? q).or (if q x then some x else s.find? q)):=fun q=>by
    rw [hp,List.find?_append,List.find?_cons]
    cases q x <;> simp
   cases hj:p.findIdx? (fun y=>decide (y.ar=x.ar)) with
   | none =>
    simp only [Option.map_none,Option.isSome_none,Bool.not_false,if_true]
    have Wh:p.find? (fun y=>decide (y.ar=x.ar))=.none:=by
     rw [List.findIdx?_eq_none_iff] at hj
     rw [List.find?_eq_none]; intro y hy; simpa using hj y hy
    have hc:F0.find? (fun y=>decide (y.ar=x.ar))=some x:=by rw [Sv,Wh]; simp
    have lO:p.map (fun x=>if F0.find? (fun y=>decide (y.ar=x.ar))=some x then (0:Int) else 1)++0 :: List.replicate s.length 0=(p++[x]).map (fun x=>if F0.find? (fun y=>decide (y.ar=x.ar))=some x then (0:Int) else 1)++List.replicate s.length 0:=by
     simp [hc]
    rw [lO,kG,Fh]
    refine ih (p++[x]) n _ hF (by simpa using hn) fun y=>?_
    rw [u9,hm,List.findIdx?_append]
    by_cases HA:y=x.ar
    ·subst HA; simp [hj,List.findIdx?_cons]
    ·rw [if_neg HA]
     cases p.findIdx? (fun z=>decide (z.ar=y)) with
     | none=>simp [List.findIdx?_cons,Ne.symm HA]
     | some j=>simp
   | some j =>
    rw [List.findIdx?_eq_some_iff_getElem] at hj
    obtain ⟨iG,MT,Fb⟩:=hj
    simp only [decide_eq_true_eq] at MT
    have Wf:p.find? (fun y=>decide (y.ar=x.ar))=some p[j]:=by
     rw [List.find?_eq_some_iff_getElem]
     exact ⟨by simpa using MT,j,iG,rfl,fun k hk=>by simpa using Fb k hk⟩
    have VQ:idx F0 (j:Int)=some p[j]:=by
     rw [nH,hp,List.getElem?_append_left iG]; simp [iG]
    have Wg:p[j] ∈ F0:=by rw [hp]; simp
    have hc:F0.find? (fun y=>decide (y.ar=x.ar))=some p[j]:=by rw [Sv,Wf]; simp
    simp only [Option.map_some,Option.isSome_some,Bool.not_true,Bool.false_eq_true,if_false,Option.getD_some]
    have iO:∀ y,gU m y=((p++[x]).findIdx? fun z=>decide (z.ar=y)).map Int.ofNat:=fun y=>by
     rw [hm,List.findIdx?_append]
     cases hq:p.findIdx? (fun z=>decide (z.ar=y)) with
     | some j=>simp
     | none =>
      have:¬ x.ar=y:=fun lD=>by
       subst lD
       rw [List.findIdx?_eq_none_iff] at hq
       have:=hq p[j] (by simp)
       simp [MT] at this
      simp [List.findIdx?_cons,this]
    show (idx F0 ((j:Nat):Int)).bind _=_
    rw [VQ]
    simp only [Option.bind_some,h2 _ Wg _ hx]
    by_cases he:p[j]=x
    ·have lO:p.map (fun x=>if F0.find? (fun y=>decide (y.ar=x.ar))=some x then (0:Int) else 1)++0 :: List.replicate s.length 0=(p++[x]).map (fun x=>if F0.find? (fun y=>decide (y.ar=x.ar))=some x then (0:Int) else 1)++List.replicate s.length 0:=by
      simp [hc,he]
     simp only [he,decide_true,Bool.not_true,Bool.false_eq_true,if_false]
     rw [lO,kG,Fh]
     exact ih (p++[x]) n _ hF (by simpa using hn) iO
    ·have lO:p.map (fun x=>if F0.find? (fun y=>decide (y.ar=x.ar))=some x then (0:Int) else 1)++1 :: List.replicate s.length 0=(p++[x]).map (fun x=>if F0.find? (fun y=>decide (y.ar=x.ar))=some x then (0:Int) else 1)++List.replicate s.length 0:=by
      simp [hc,he]
     simp only [he,decide_false,Bool.not_false,if_true]
     rw [lV (by simp),nR (by simp)]
     simp only [Option.bind_some]
     rw [lO,kG,Fh]
     exact ih (p++[x]) n _ hF (by simpa using hn) iO
theorem IH {F:Nat} {l:List ax} {p1:ax→Option aL} {p2:ax→ax→Option Bool} (hb:l.length<1000000) (hF:l.length<F) (h1:∀ a ∈ l,p1 a=some a.ar) (h2:∀ a ∈ l,∀ b ∈ l,p2 a b=some (decide (a=b))) :
  Gw F l p1 p2=some (l.map (·.ar),sx (·.ar) l):=by
 unfold Gw
 rw [qw (by omega),Option.bind_some,qw (by omega),Option.bind_some]
 exact split_loop hb h1 h2 _ l [] F [] rfl hF fun x=>by simp [gU]
theorem pD {F:Nat} (Nw:10≤F) {l:List ax} {p1:ax→Option aL} {p2:ax→ax→Option Bool} (hb:l.length<1000000) (hF:l.length<F) (h1:∀ a ∈ l,p1 a=some a.ar) (h2:∀ a ∈ l,∀ b ∈ l,p2 a b=some (decide (a=b))) :
  Gv F l p1 p2=some (oH (l.map (·.ar)) (sx (·.ar) l)):=by
 unfold Gv
 rw [IH hb hF h1 h2]
 simp only [Option.bind_some]
 rw [xz Nw (by simpa using hb) (by simpa using hF)]
 rfl
theorem CU {l:List ax} {a:List Int} {c:Int} {F:Nat} (hc:qL F l) (ha:∀ i ∈ a,0≤i∧i.toNat<l.length) (hb:a.length<1000000) (z:ax):∀ (s p:List Int) (n:Nat),a=p++s→s.length<n →
  Bi l (a,c) n (p.length:Int) (hZ l p++List.replicate s.length z)=some (hZ l a,0):=by
 intro s
 induction s with
 | nil =>
  intro p n hp hn
  cases n with
  | zero=>omega
  | succ n =>
   have:a=p:=by simpa using hp
   subst this
   simp only [Bi,GM,Int.lt_irrefl,decide_false,Bool.false_eq_true,if_false,List.length_nil,List.replicate_zero,List.append_nil]
 | cons x s ih =>
  intro p n hp hn
  cases n with
  | zero=>omega
  | succ n =>
   have hx:=ha x (by rw [hp]; simp)
   have xj:(hZ l p).length=p.length:=nP fun i hi=>(ha i (by rw [hp]; simp [hi])).2
   have hlen:p.length<1000000:=by rw [hp] at hb; simp at hb; omega
   have d1:decide ((p.length:Int)<(a.length:Int))=true:=by rw [hp]; exact HL p x s
   have i1:idx a (p.length:Int)=some x:=by rw [hp]; exact jH p x s
   have i2:idx l x=some l[x.toNat]:=by rw [js]; exact ⟨hx.1,by simp [hx.2]⟩
   simp only [Bi,GM,d1,if_true,i1,i2,Option.bind_some,List.length_cons,List.replicate_succ]
   have lO:=hc l[x.toNat] (List.getElem_mem hx.2)
   rw [lV xj,Option.bind_some,kL lO,Option.bind_some,nR xj,lV xj,Option.bind_some,nR xj]
   simp only [F6 (show p.length<1000000000 by omega)]
   have e1:hZ l p++l[x.toNat] :: List.replicate s.length z=hZ l (p++[x])++List.replicate s.length z:=by simp [hZ,hx.2]
   have e2:((p.length+1:Nat):Int)=((p++[x]).length:Int):=by simp
   rw [e1,e2]
   exact ih (p++[x]) n (by simp [hp]) (by simpa using hn)
theorem vS {F:Nat} (Nw:10≤F) {l:List ax} (hc:qL F l) (hb:l.length<1000000) (hF:l.length<F):yJ F l=some (gO (·.ar) l):=by
 unfold yJ
 rw [pD (p1:=fun a0=>Co a0) (p2:=fun a0 a1=>iJ F a0 a1) Nw hb hF (fun a _=>rfl) (fun a ha b _=>G5 (hc a ha))]
 rw [uT (BQ _ _)]
 simp only [Option.bind_some,gO]
 by_cases h:300<(Hs (·.ar) l).length
 ·simp [h]
 ·have hlen:=oG (l.map (·.ar)) (sx (·.ar) l)
  rw [List.length_map] at hlen
  simp only [h,if_false,bne_self_eq_false,Bool.false_eq_true]
  rw [qw (by omega)]
  simp only [Option.bind_some]
  rw [← EU (BQ (·.ar) l)]
  refine CU hc (fun i hi=>?_) (by omega) _ _ [] F rfl (Nat.lt_of_le_of_lt hlen hF)
  have:=qp hi
  exact ⟨this.1,by simpa using this.2⟩
theorem CN {F:Nat} {l:List ax} (hc:qL F l) {i:Nat} (hi:i<l.length) (hb:l.length<1000000) (aK:Int→List aL→List Int→Option (List ax × Int)) (l2:List aL) (l3:List Int) (h2:l2.length<1000000) (h3:l3.length<1000000) :
  ∀ (k n:Nat),k≤i→k<n→Bg aK F l i l2 l3 n ((k:Int)+((l.drop k).findIdx fun y=>decide (y=l[i]):Nat)) ((k:Int) - 1)=aK ((i+1:Nat):Int) (l2++[l[i].ar]) (l3++[((l.findIdx fun y=>decide (y=l[i]):Nat):Int)]):=by
 intro k
 induction k with
 | zero =>
  intro n hk hn
  cases n with
  | zero=>omega
  | succ n =>
   have d:decide (((0:Nat):Int) - 1 ≥ 0)=false:=by simp
   simp only [Bg,GJ,d,Bool.false_eq_true,if_false,dp hi,Option.bind_some]
   rw [c9 (by simp; omega),Option.bind_some,c9 (by simp; omega),Option.bind_some,F6 (by omega)]
   simp
 | succ k ih =>
  intro n hk hn
  cases n with
  | zero=>omega
  | succ n =>
   have d:decide (((k+1:Nat):Int) - 1 ≥ 0)=true:=by simp
   have e:((k+1:Nat):Int) - 1=(k:Int):=by omega
   have Hx:k<l.length:=by omega
   simp only [Bg,GJ,d,if_true]
   rw [e]
   simp only [dp hi,dp Hx,Option.bind_some]
   rw [IE (hc l[i] (List.getElem_mem hi))]
   simp only [Option.bind_some]
   rw [cX (by omega) (by omega)]
   have hd:l.drop k=l[k] :: l.drop (k+1):=(List.drop_eq_getElem_cons Hx)
   have:=ih n (by omega) (by omega)
   rw [hd,List.findIdx_cons] at this
   by_cases h:l[i]=l[k]
   ·simp only [h,decide_true,if_true]
    simp only [h,decide_true,cond_true,Int.ofNat_zero,Int.add_zero] at this
    exact this
   ·simp only [h,decide_false,Bool.false_eq_true,if_false]
    simp only [Ne.symm h,decide_false,cond_false] at this
    rw [← this]
    congr 1
    omega
theorem Dw {l:List ax} {a:List Int} {c:Int} (ha:∀ i ∈ a,0≤i∧i.toNat<l.length) (hb:a.length<1000000):∀ (s p:List Int) (n:Nat),a=p++s→s.length<n →
  Bh l (a,c) n (p.length:Int) (hZ l p)=some (hZ l a,0):=by
 intro s
 induction s with
 | nil =>
  intro p n hp hn
  cases n with
  | zero=>omega
  | succ n =>
   have:a=p:=by simpa using hp
   subst this
   simp only [Bh,GK,Int.lt_irrefl,decide_false,Bool.false_eq_true,if_false]
 | cons x s ih =>
  intro p n hp hn
  cases n with
  | zero=>omega
  | succ n =>
   have hx:=ha x (by rw [hp]; simp)
   have xj:(hZ l p).length=p.length:=nP fun i hi=>(ha i (by rw [hp]; simp [hi])).2
   have hlen:p.length<1000000:=by rw [hp] at hb; simp at hb; omega
   have d1:decide ((p.length:Int)<(a.length:Int))=true:=by rw [hp]; exact HL p x s
   have i1:idx a (p.length:Int)=some x:=by rw [hp]; exact jH p x s
   have i2:idx l x=some l[x.toNat]:=by rw [js]; exact ⟨hx.1,by simp [hx.2]⟩
   simp only [Bh,GK,d1,if_true,i1,i2,Option.bind_some]
   rw [c9 (by simp; omega)]
   simp only [Option.bind_some,F6 (show p.length<1000000000 by omega)]
   have e1:hZ l p++[l[x.toNat]]=hZ l (p++[x]):=by simp [hZ,hx.2]
   have e2:((p.length+1:Nat):Int)=((p++[x]).length:Int):=by simp
   rw [e1,e2]
   exact ih (p++[x]) n (by simp [hp]) (by simpa using hn)
theorem ru {F:Nat} {l:List ax} (hc:qL F l) (hb:l.length<1000000) (hF:l.length<F):∀ (j n i:Nat),i+j=l.length→j<n →
  y6 F l n (i:Int) ((l.take i).map (·.ar)) ((mL l).take i)=some (gO (·.ar) l):=by
 intro j
 induction j with
 | zero =>
  intro n i rQ hn
  cases n with
  | zero=>omega
  | succ n =>
   have hi:i=l.length:=by omega
   subst hi
   have hc:(mL l).take l.length=mL l:=List.take_of_length_le (by simp [mL])
   simp only [y6,GI,Int.lt_irrefl,decide_false,Bool.false_eq_true,if_false,List.take_length,hc]
   rw [tP (by simpa using hb) (by simpa using hF),uT (vW _ _)]
   simp only [Option.bind_some,gO]
   by_cases h:300<(Hs (·.ar) l).length
   ·simp [h]
   ·have hlen:=oG (l.map (·.ar)) (mL l)
    rw [List.length_map] at hlen
    simp only [h,if_false,bne_self_eq_false,Bool.false_eq_true]
    refine Dw (fun i hi=>?_) (by omega) _ [] F rfl (Nat.lt_of_le_of_lt hlen hF)
    have:=qp hi
    exact ⟨this.1,by simpa using this.2⟩
 | succ j ih =>
  intro n i rQ hn
  cases n with
  | zero=>omega
  | succ n =>
   have hi:i<l.length:=by omega
   have d1:decide ((i:Int)<(l.length:Int))=true:=by simp; omega
   simp only [y6,GI,d1,if_true]
   have Sm:=CN hc hi hb (y6 F l n) ((l.take i).map (·.ar)) ((mL l).take i) (by simp; omega) (by simp [mL]; omega) i F (by omega) (by omega)
   have h0:(l.drop i).findIdx (fun y=>decide (y=l[i]))=0:=by rw [List.drop_eq_getElem_cons hi,List.findIdx_cons]; simp
   rw [h0] at Sm
   simp only [Int.ofNat_zero,Int.add_zero] at Sm
   rw [cX (by omega) (by omega),Sm]
   have e1:(l.take i).map (·.ar)++[l[i].ar]=(l.take (i+1)).map (·.ar):=by
    rw [List.take_add_one,List.map_append]; simp [hi,-List.map_take]
   have e2:(mL l).take i++[((l.findIdx fun y=>decide (y=l[i]):Nat):Int)]=(mL l).take (i+1):=by rw [List.take_add_one]; simp [mL,hi]
   rw [e1,e2]
   exact ih n (i+1) (by omega) (by omega)
theorem vT {F:Nat} {l:List ax} (hc:qL F l) (hb:l.length<1000000) (hF:l.length<F):Cq F l=some (gO (·.ar) l) :=
 ru hc hb hF l.length F 0 (by omega) hF
end Go.Sh
namespace Go.Sh
open Go.L
theorem wV (a b:Bool):(if a=true then some true else some b)=some (a || b):=by cases a <;> rfl
theorem xy (a b:Int):(a == b)=decide (a=b):=by rw [Bool.eq_iff_iff]; simp
def Dx (s:ByteArray):Bool:=s.data.toList.all fun b=>!(decide ((b.toNat:Int)<32) || decide ((b.toNat:Int) > 126))
theorem Kd {s:ByteArray} {i:Nat} {b:UInt8} (h:s.data.toList[i]?=some b):zm s (i:Int)=some (b.toNat:Int):=by
 unfold zm
 simp only [show (0:Int)≤(i:Int) by omega,if_true,Int.toNat_natCast,h,Option.map_some]
theorem yp {F:Nat} {s:ByteArray} (hb:s.size<1000000) (hF:s.size<F):yM F s=some (Dx s):=by
 unfold yM Dx
 have eH:(s.size:Int)=(s.data.toList.length:Int):=by
  show ((s.data.size:Nat):Int)=_
  rw [Array.length_toList]
 have hl:s.data.toList.length=s.size:=Array.length_toList
 refine BK (L:=Bk s) (fun b:UInt8=>!(decide ((b.toNat:Int)<32) || decide ((b.toNat:Int) > 126))) (by omega) (fun n i x hx hi=>?_) (fun n=>?_) (by omega)
 ·simp only [Bk,GO,eH,jT hx,if_true,Kd hx,Option.bind_some,jJ hi,wV]
  cases (decide ((x.toNat:Int)<32) || decide ((x.toNat:Int) > 126)) <;> simp
 ·simp only [Bk,GO,eH,jE,Bool.false_eq_true,if_false]
def rF (p:aq):Bool:=!(decide (p.Max<1) || (decide (p.Max > 40) || (decide (p.e9<0) || (decide (p.e9 ≥ 16) || (decide (p.cr<0) || decide (p.cr ≥ 6)))))) &&
 (if p.Kind=1 then decide (p.Options=0) && decide (p.Key=0) else decide (p.Kind=2) && (decide (p.Options ≥ 2) && (decide (p.Options≤5) && (decide (p.Key ≥ 0) && decide (p.Key<p.Options)))))
theorem zO (p:aq):yL p=some (rF p):=by
 unfold yL rF
 cases (decide (p.Max<1) || (decide (p.Max > 40) || (decide (p.e9<0) || (decide (p.e9 ≥ 16) || (decide (p.cr<0) || decide (p.cr ≥ 6)))))) with
 | true=>simp
 | false =>
  by_cases h1:p.Kind=1
  ·simp only [h1,Bool.false_eq_true,if_false,if_true,beq_self_eq_true,Bool.not_false,Bool.true_and,xy]
  ·by_cases h2:p.Kind=2
   ·simp [h1,h2]
   ·simp [h1,h2]
def uS (id:Int) (l:List Int) (i:Nat) (x:Int):Bool:=!(decide (x ≥ 0) && decide (x≤9999)) || (decide (x=id) || (decide (0<i) && decide (l.getD (i - 1) 0 ≥ x)))
def tr (id:Int) (l:List Int):Bool:=scan (fun i x=>if uS id l i x=true then some false else .none) true 0 l
theorem JQ {l:List Int} {i:Nat} {x:Int} (hi:i<1000000) (hx:l[i]?=some x) (h0:0<i):idx l (i64 ((i:Int) - 1))=some (l.getD (i - 1) 0):=by
 have h1:=(List.getElem?_eq_some_iff.1 hx).1
 rw [cX (by omega) (by omega),show (i:Int) - 1=((i - 1:Nat):Int) by omega,nH]
 simp [show i - 1<l.length by omega]
theorem CR {F:Nat} {id:Int} {l:List Int} (hb:l.length<1000000) (hF:l.length<F):GS F id l=some (tr id l):=by
 unfold GS tr
 refine gn _ _ hb (fun n i x hx hi=>?_) (fun n=>?_) hF
 ·simp only [DD,Gx,jT hx,if_true,jr hx,Option.bind_some,vq,jJ hi]
  unfold uS
  by_cases h0:0<i
  ·have d:decide ((i:Int) > 0)=true:=by simp; exact h0
   simp only [d,if_true,JQ hi hx h0,Option.bind_some,wV,h0,decide_true,Bool.true_and,xy]
   cases (!(decide (x ≥ 0) && decide (x≤9999)) || (decide (x=id) || decide (l.getD (i - 1) 0 ≥ x))) <;> simp
  ·have d:decide ((i:Int) > 0)=false:=by simp; omega
   simp only [d,Bool.false_eq_true,if_false,Option.bind_some,wV,h0,decide_false,Bool.false_and,xy]
   cases (!(decide (x ≥ 0) && decide (x≤9999)) || (decide (x=id) || false)) <;> simp
 ·simp only [DD,Gx,jE,Bool.false_eq_true,if_false]
def jk (x:ai):Int :=
 if (!(decide (x.ID ≥ 0) && decide (x.ID≤9999)) || (decide (x.Version<1) || decide (x.Version > 8)))=true then 2
 else if (decide ((x.bJ.size:Int) > 40) || (decide ((x.aH.length:Int) > 6) || decide ((x.aF.length:Int) > 8)))=true then 3
 else if (decide (x.bJ=ByteArray.mk #[]) || !(Dx x.bJ))=true then 7
 else if x.aH=[] then 10
 else if x.aH.all rF=true then (if tr x.ID x.aF=true then 0 else 9) else 1
theorem vI {α R:Type} (f:α→Bool) (c e:R):∀ (l:List α) (i:Nat),scan (fun _ x=>if f x=true then .none else some c) e i l=if l.all f=true then e else c
 | [],i=>rfl
 | x :: l,i=>by
  unfold scan
  rw [List.all_cons]
  cases hf:f x with
  | true=>simp [vI f c e l]
  | false=>simp
theorem vU {F:Nat} {x:ai} (hF:50<F):tM F x=some (jk x):=by
 unfold tM jk vq
 simp only [Option.bind_some,wV]
 cases h1:(!(decide (x.ID ≥ 0) && decide (x.ID≤9999)) || (decide (x.Version<1) || decide (x.Version > 8))) with
 | true=>simp
 | false =>
  simp only [Bool.false_eq_true,if_false]
  cases h2:(decide ((x.bJ.size:Int) > 40) || (decide ((x.aH.length:Int) > 6) || decide ((x.aF.length:Int) > 8))) with
  | true=>simp
  | false =>
   simp only [Bool.or_eq_false_iff,decide_eq_false_iff_not] at h2
   simp only [Bool.false_eq_true,if_false]
   rw [yp (by omega) (by omega)]
   simp only [Option.bind_some,wV]
   cases (decide (x.bJ=ByteArray.mk #[]) || !(Dx x.bJ)) with
   | true=>simp
   | false =>
    simp only [Bool.false_eq_true,if_false]
    by_cases h3:x.aH=[]
    ·simp [h3]
    ·have h4:((x.aH.length:Int) == 0)=false:=by
      rw [beq_eq_false_iff_ne]; intro h; exact h3 (List.eq_nil_of_length_eq_zero (by omega))
     simp only [h3,h4,Bool.false_eq_true,if_false]
     rw [← vI rF (1:Int) (if tr x.ID x.aF=true then 0 else 9) x.aH 0]
     refine gn _ _ (by omega) (fun n i y hy hi=>?_) (fun n=>?_) (by omega)
     ·simp only [vp,yE,jT hy,if_true,jr hy,Option.bind_some,jJ hi,zO]
      cases rF y <;> simp
     ·simp only [vp,yE,jE,Bool.false_eq_true,if_false]
      rw [CR (by omega) (by omega)]
      cases tr x.ID x.aF <;> simp
theorem vV {F:Nat} {x:ai} (hF:50<F) (h:jk x=0):Hq F x∧0≤x.ID∧x.ID≤9999∧1≤x.Version∧x.Version≤8:=by
 unfold jk at h
 by_cases h1:(!(decide (x.ID ≥ 0) && decide (x.ID≤9999)) || (decide (x.Version<1) || decide (x.Version > 8)))=true
 ·rw [if_pos h1] at h; simp at h
 ·rw [if_neg h1] at h
  by_cases h2:(decide ((x.bJ.size:Int) > 40) || (decide ((x.aH.length:Int) > 6) || decide ((x.aF.length:Int) > 8)))=true
  ·rw [if_pos h2] at h; simp at h
  ·simp only [Bool.not_eq_true,Bool.or_eq_false_iff,decide_eq_false_iff_not,Bool.not_eq_false',Bool.and_eq_true,decide_eq_true_eq] at h1 h2
   refine ⟨⟨⟨?_,?_⟩,?_,?_⟩,?_,?_,?_,?_⟩ <;> omega
def ji (l:List ak):Prop:=l.Pairwise fun a b=>a.ID<b.ID
def cG (l:List ak) (n:Int):Option Nat:=l.findIdx? fun b=>b.ID == n
def jS (l:List ak) (n:Int):Nat:=(l.takeWhile fun b=>decide (b.ID<n)).length
theorem nE (l:List ak) (n:Int):jS l n≤l.length:=(List.takeWhile_sublist _).length_le
theorem sA {l:List ak} (hs:ji l) (n:Int):∀ q (hq:q<l.length),q<jS l n ↔ l[q].ID<n:=by
 induction l with
 | nil=>intro q hq; simp at hq
 | cons x s ih =>
  have Fy:=List.pairwise_cons.1 hs
  intro q hq
  unfold jS
  by_cases hx:x.ID<n
  ·rw [List.takeWhile_cons_of_pos (by simpa using hx)]
   cases q with
   | zero=>simp [hx]
   | succ q=>have:=ih Fy.2 q (by simpa using hq); unfold jS at this; simpa using this
  ·rw [List.takeWhile_cons_of_neg (by simpa using hx)]
   cases q with
   | zero=>simp; omega
   | succ q =>
    have pk:q<s.length:=by simpa using hq
    have:=Fy.1 s[q] (List.getElem_mem _)
    simp; omega
theorem PR {a b:Nat} (h:a+b<1000000000):i64 (pd .u64 (IntKind.u64.wrap (i64 ((a:Int)+b))) 1)=(((a+b) / 2:Nat):Int):=by
 rw [cX (n:=(a:Int)+b) (by omega) (by omega)]
 have h1:IntKind.u64.wrap ((a:Int)+b)=(a:Int)+b:=by
  unfold IntKind.wrap
  simp only [IntKind.bits,IntKind.signed]
  first | omega | (simp; omega)
 rw [h1]
 have h2:pd .u64 ((a:Int)+b) 1=((a:Int)+b) / 2:=by
  unfold pd
  simp only [IntKind.bits]
  rw [show (2:Int) ^ min (1:Int).toNat 64=2 from rfl]
  rw [Int.fdiv_eq_ediv_of_nonneg _ (by omega)]
 rw [h2,cX (by omega) (by omega)]
 omega
theorem vR {l:List ak} {x:Int} {p2:ak→Int→Option Int} {f:ak→Int} {k:Nat} (hb:l.length<1000000) (hk:k≤l.length) (hf:∀ y ∈ l,p2 y x=some (f y)) (h:∀ q (hq:q<l.length),q<k ↔ f l[q]<0) :
  ∀ n (a b:Nat),a≤k→k≤b→b≤l.length→b - a<n→M7 l x p2 n a b=some ((k:Int),match l[k]? with | some y=>f y == 0 | .none=>false):=by
 intro n
 induction n with
 | zero=>intro a b _ _ _ h; omega
 | succ n ih =>
  intro a b ha V3 UA hn
  simp only [M7,RG]
  by_cases mj:a<b
  ·have d:decide ((a:Int)<(b:Int))=true:=by simp; exact mj
   have hm:(a+b) / 2<l.length:=by omega
   simp only [d,if_true,PR (show a+b<1000000000 by omega),dp hm,Option.bind_some,hf _ (List.getElem_mem hm)]
   by_cases ec:f l[(a+b) / 2]<0
   ·have:=(h _ hm).2 ec
    simp only [ec,decide_true,if_true,F6 (show (a+b) / 2<1000000000 by omega)]
    exact ih _ _ (by omega) V3 UA (by omega)
   ·have:¬ (a+b) / 2<k:=fun hc=>ec ((h _ hm).1 hc)
    simp only [ec,decide_false,Bool.false_eq_true,if_false]
    exact ih _ _ ha (by omega) (by omega) (by omega)
  ·have d:decide ((a:Int)<(b:Int))=false:=by simp; omega
   have VL:a=k:=by omega
   subst VL
   simp only [d,Bool.false_eq_true,if_false]
   by_cases zV:a<l.length
   ·have d2:decide ((a:Int)<(l.length:Int))=true:=by simp; exact zV
    simp only [d2,if_true,dp zV,Option.bind_some,hf _ (List.getElem_mem zV),List.getElem?_eq_getElem zV]
   ·have d2:decide ((a:Int)<(l.length:Int))=false:=by simp; omega
    simp only [d2,Bool.false_eq_true,if_false,Option.bind_some,List.getElem?_eq_none (show l.length≤a by omega)]
theorem vi {l:List ak} (hs:ji l) (c:Int):cG l c=if (match l[jS l c]? with | some y=>ly y.ID c == 0 | .none=>false)=true then some (jS l c) else .none:=by
 have h:=sA hs c
 have hk:=nE l c
 generalize jS l c=k at h hk
 by_cases Hx:k<l.length
 ·rw [List.getElem?_eq_getElem Hx]
  simp only [beq_iff_eq,j7]
  split
  ·rename_i hc
   unfold cG
   rw [List.findIdx?_eq_some_iff_getElem]
   refine ⟨Hx,by simpa using hc,fun j hj=>?_⟩
   have:=(h j (by omega)).1 hj
   simp; omega
  ·rename_i hc
   unfold cG
   rw [List.findIdx?_eq_none_iff]
   intro y hy
   obtain ⟨q,hq,rfl⟩:=List.getElem_of_mem hy
   have h2:=h q hq
   rcases Nat.lt_trichotomy q k with SN | rfl | SN
   ·have:=h2.1 SN; simp; omega
   ·simpa using hc
   ·have h3:=List.pairwise_iff_getElem.1 hs k q Hx hq SN
    have h4:=h k Hx
    simp; omega
 ·rw [List.getElem?_eq_none (by omega)]
  simp only [Bool.false_eq_true,if_false]
  unfold cG
  rw [List.findIdx?_eq_none_iff]
  intro y hy
  obtain ⟨q,hq,rfl⟩:=List.getElem_of_mem hy
  have:=(h q hq).1 (by omega)
  simp; omega
theorem tD {l:List ak} (hs:ji l) {c:Int} {j:Nat} (h:cG l c=some j):j=jS l c:=by
 rw [vi hs] at h
 by_cases hc:(match l[jS l c]? with | some y=>ly y.ID c == 0 | .none=>false)=true
 ·rw [if_pos hc] at h; exact (Option.some.inj h).symm
 ·rw [if_neg hc] at h; cases h
theorem ef {l:List ak} {c:Int} {j:Nat} (h:cG l c=some j):∃ hj:j<l.length,l[j].ID=c:=by
 unfold cG at h
 rw [List.findIdx?_eq_some_iff_getElem] at h
 exact ⟨h.1,by simpa using h.2.1⟩
theorem Vr {F:Nat} {l:List ak} {c:Int} (hs:ji l) (hb:l.length<1000000) (Ht:l.length<F) :
  QJ F l c (fun a0 a1=>tH a0 a1)=some ((jS l c:Int),(cG l c).isSome):=by
 have h1:∀ y ∈ l,tH y c=some (ly y.ID c):=fun y _=>by simp [tH,nC]
 have hl:=vR (l:=l) (x:=c) (p2:=fun a0 a1=>tH a0 a1) (f:=fun y=>ly y.ID c) hb (nE l c) h1 (fun q hq=>by rw [sA hs c q hq,pC]) F 0 l.length (by omega) (nE l c) (by omega) (by omega)
 unfold QJ
 rw [show (0:Int)=((0:Nat):Int) from rfl,hl,vi hs]
 congr 2
 cases hc:(match l[jS l c]? with | some y=>ly y.ID c == 0 | .none=>false) <;> simp
end Go.Sh
namespace Go.Sh
open Go.L
structure sn (r:ak):Prop where
 n1:1≤r.ab.length
 n8:r.ab.length≤8
 ap:r.ah.length=r.ab.length
 us:r.Uses.length≤300
 vs:∀ (i:Nat) x,r.ab[i]?=some x→jk x=0∧x.ID=r.ID∧x.Version=(i:Int)+1
 uv:∀ u ∈ r.Uses,1≤u.Version∧u.Version≤r.ab.length
structure iq (l:List ak):Prop where
 len:l.length≤40
 sort:ji l
 ok:∀ r ∈ l,sn r
def oE (e:ax) (r:ak):Prop:=e.Ref.Version<1 ∨ e.Ref.Version > r.ab.length
instance (e:ax) (r:ak):Decidable (oE e r):=by unfold oE; infer_instance
def rr (e:ax) (r:ak):Bool:=r.ah.getD (e.Ref.Version - 1).toNat false
def kh (r:ak) (e:ax):Int × ak :=
 if e.Kind=2 then (if r.ae=true ∨ e.Item.Version ≠ (r.ab.length:Int)+1 then (8,r) else (0,⟨r.ID,r.ab++[e.Item],r.ah++[false],r.Uses,r.ae⟩))
 else if e.Kind=3 then (if oE e r then (4,r) else if r.ae=true then (8,r) else if rr e r=true then (5,r) else (0,⟨r.ID,r.ab,r.ah.set (e.Ref.Version - 1).toNat true,r.Uses,r.ae⟩))
 else if e.Kind=4 then (if oE e r then (4,r) else if r.ae=true ∨ rr e r=false then (8,r) else if r.Uses.any (fun u=>u.Form == e.Form)=true then (5,r) else if 300≤r.Uses.length then (3,r) else (0,⟨r.ID,r.ab,r.ah,r.Uses++[⟨e.Ref.Version,e.Form,e.ar.Time⟩],r.ae⟩))
 else (if r.ae=decide (e.Kind=5) then (8,r) else (0,⟨r.ID,r.ab,r.ah,r.Uses,decide (e.Kind=5)⟩))
def Hd (e:ax):Int:=if e.Kind=2 then e.Item.ID else e.Ref.ID
def OO (l:List ak) (e:ax):List ak:=l.take (jS l e.Item.ID)++[⟨e.Item.ID,[e.Item],[false],[],false⟩]++l.drop (jS l e.Item.ID)
def kg (l:List ak) (e:ax):Int × List ak :=
 if jk e.Item ≠ 0 then (jk e.Item,l) else if e.Item.Version ≠ 1 then (8,l) else if (cG l e.Item.ID).isSome=true then (5,l) else if 40≤l.length then (3,l) else (0,OO l e)
def lA (l:List ak) (e:ax):Int × List ak :=
 match cG l (Hd e) with
 | .none=>(4,l)
 | some k=>match l[k]? with
  | .none=>(4,l)
  | some r=>if (kh r e).1=0 then (0,l.set k (kh r e).2) else ((kh r e).1,l)
def cP (l:List ak) (e:ax):Int × List ak :=
 if e.Kind=1 then kg l e
 else if e.Kind=2 then (if jk e.Item ≠ 0 then (jk e.Item,l) else lA l e)
 else if e.Kind=3 ∨ e.Kind=4 ∨ e.Kind=5 ∨ e.Kind=6 then lA l e
 else (2,l)
theorem Cl {F:Nat} {l:List ak} {c:Int} (h:iq l) (hF:400<F):vC F ⟨l⟩ c=some ((jS l c:Int),(cG l c).isSome):=by
 unfold vC
 rw [Vr h.sort (by have:=h.len; omega) (by have:=h.len; omega)]; rfl
theorem tO {F:Nat} {l:List ak} {c:Int} (h:iq l) (hF:400<F):tJ F ⟨l⟩ c=some ((cG l c).map Int.ofNat):=by
 unfold tJ
 rw [Cl h hF]
 simp only [Option.bind_some]
 cases hp:cG l c with
 | none=>simp
 | some j =>
  obtain ⟨iG,_⟩:=ef hp
  simp only [Option.isSome_some,Bool.not_true,Bool.false_eq_true,if_false]
  rw [← tD h.sort hp,dp iG]
  rfl
theorem vM {F:Nat} {l:List ak} {e:ax} (h:iq l) (hF:400<F):vy F ⟨l⟩ e.Ref=some (match cG l e.Ref.ID with | .none=>.none | some j=>match l[j]? with | .none=>.none | some r=>if oE e r then .none else some (j:Int)):=by
 unfold vy
 rw [tO h hF]
 simp only [Option.bind_some]
 cases hp:cG l e.Ref.ID with
 | none=>rfl
 | some j =>
  obtain ⟨iG,_⟩:=ef hp
  simp only [Option.map_some,pY,List.getElem?_eq_getElem iG]
  rw [show Int.ofNat j=(j:Int) from rfl,dp iG]
  simp only [Option.bind_some,oE,Bool.or_eq_true,decide_eq_true_eq]
  split
  ·rename_i hh; simp only [hh,if_true]
  ·rename_i hh; simp only [hh,if_false]
theorem BT {F:Nat} {l:List ak} {e:ax} (h:iq l) (hF:400<F):vB F ⟨l⟩ e=some ((kg l e).1,⟨(kg l e).2⟩):=by
 unfold vB kg
 rw [vU (by omega),Cl h hF]
 simp only [Option.bind_some]
 by_cases h1:jk e.Item=0
 ·have Te:=(vV (F:=F) (by omega) h1).1
  simp only [h1,bne_self_eq_false,Bool.false_eq_true,if_false,ne_eq,not_true_eq_false]
  by_cases h2:e.Item.Version=1
  ·simp only [h2,bne_self_eq_false,Bool.false_eq_true,if_false,not_true_eq_false]
   by_cases h3:(cG l e.Item.ID).isSome=true
   ·simp only [h3,if_true]
   ·simp only [h3,if_false,Bool.false_eq_true]
    by_cases h4:40≤l.length
    ·have d:decide ((l.length:Int) ≥ 40)=true:=by simp; omega
     simp only [d,h4,if_true]
    ·have d:decide ((l.length:Int) ≥ 40)=false:=by simp; omega
     simp only [d,h4,if_false,Bool.false_eq_true,kL Te,Option.bind_some]
     unfold Ie
     have hc:=nE l e.Item.ID
     rw [if_pos (by have:=h.len; constructor <;> omega)]
     rfl
  ·have d:(e.Item.Version != 1)=true:=by simp [h2]
   simp only [d,h2,if_true,not_false_eq_true]
 ·have d:(jk e.Item != 0)=true:=by simp [h1]
  simp only [d,h1,if_true,ne_eq,not_false_eq_true]
theorem zj {F:Nat} {l:List ak} {e:ax} (h:iq l) (hF:400<F) (hk:e.Kind=2):vz F ⟨l⟩ e=some ((cP l e).1,⟨(cP l e).2⟩):=by
 unfold vz cP
 rw [vU (by omega),tO h hF]
 simp only [Option.bind_some,hk,show ¬ ((2:Int)=1) by omega,if_false,if_true]
 by_cases h1:jk e.Item=0
 ·have Te:=(vV (F:=F) (by omega) h1).1
  simp only [h1,bne_self_eq_false,Bool.false_eq_true,if_false,ne_eq,not_true_eq_false]
  unfold lA
  simp only [Hd,hk,if_true]
  cases hp:cG l e.Item.ID with
  | none=>rfl
  | some j =>
   obtain ⟨iG,_⟩:=ef hp
   have hr:=h.ok l[j] (List.getElem_mem iG)
   simp only [Option.map_some,pY,List.getElem?_eq_getElem iG]
   rw [show Int.ofNat j=(j:Int) from rfl,dp iG]
   simp only [Option.bind_some,kh,hk,if_true]
   have hw:i64 ((l[j].ab.length:Int)+1)=(l[j].ab.length:Int)+1:=by have:=hr.n8; rw [cX (by omega) (by omega)]
   rw [hw]
   by_cases h2:l[j].ae=true ∨ e.Item.Version ≠ (l[j].ab.length:Int)+1
   ·have d:(l[j].ae || e.Item.Version != (l[j].ab.length:Int)+1)=true:=by simpa using h2
    simp only [d,if_true,h2,show ¬ ((8:Int)=0) by omega,if_false]
   ·have d:(l[j].ae || e.Item.Version != (l[j].ab.length:Int)+1)=false:=by simpa using h2
    simp only [d,Bool.false_eq_true,if_false,h2,kL Te,Option.bind_some]
    rw [c9 (by simp; have:=hr.n8; omega),Option.bind_some,c9 (by simp; have:=hr.n8; have:=hr.ap; omega)]
    simp
 ·have d:(jk e.Item != 0)=true:=by simp [h1]
  simp only [d,h1,if_true,ne_eq,not_false_eq_true]
theorem BL {e:ax} {r:ak} (hr:sn r) (h:¬ oE e r):idx r.ah (i64 (e.Ref.Version - 1))=some (rr e r)∧i64 (e.Ref.Version - 1)=e.Ref.Version - 1:=by
 unfold oE at h
 have:=hr.n8
 have ha:=hr.ap
 have hw:i64 (e.Ref.Version - 1)=e.Ref.Version - 1:=by rw [cX (by omega) (by omega)]
 refine ⟨?_,hw⟩
 rw [hw]
 unfold rr
 rw [js]
 refine ⟨by omega,?_⟩
 have:(e.Ref.Version - 1).toNat<r.ah.length:=by omega
 rw [List.getD_eq_getElem?_getD,List.getElem?_eq_getElem this]; rfl
theorem uR {F:Nat} {l:List ak} {e:ax} (h:iq l) (hF:400<F) (hk:e.Kind=3):vw F ⟨l⟩ e=some ((cP l e).1,⟨(cP l e).2⟩):=by
 unfold vw cP lA
 rw [vM h hF]
 simp only [Option.bind_some,hk,Hd,show ¬ ((3:Int)=1) by omega,show ¬ ((3:Int)=2) by omega,if_false,true_or,if_true]
 cases hp:cG l e.Ref.ID with
 | none=>rfl
 | some j =>
  obtain ⟨iG,_⟩:=ef hp
  have hr:=h.ok l[j] (List.getElem_mem iG)
  simp only [List.getElem?_eq_getElem iG,kh,hk,show ¬ ((3:Int)=2) by omega,if_false,if_true]
  by_cases hb:oE e l[j]
  ·simp only [hb,if_true,pY,show ¬ ((4:Int)=0) by omega,if_false]
  ·obtain ⟨q1,q2⟩:=BL hr hb
   simp only [hb,if_false,pY,dp iG,Option.bind_some]
   by_cases hw:l[j].ae=true
   ·simp only [hw,if_true,show ¬ ((8:Int)=0) by omega,if_false]
   ·simp only [hw,if_false,q1,Option.bind_some,Bool.false_eq_true]
    by_cases ha:rr e l[j]=true
    ·simp only [ha,if_true,show ¬ ((5:Int)=0) by omega,if_false]
    ·simp only [ha,if_false,Bool.false_eq_true,q2,if_true]
     rfl
theorem Hi {F:Nat} {l:List ay} {p:ay→Option Bool} (f:ay→Bool) (hp:∀ u ∈ l,p u=some (f u)) (hb:l.length<1000000) (hF:l.length<F):Dz F l p=some (l.any f):=by
 unfold Dz Iy
 rw [gn (a:=l) (L:=Mq l p) (fun i x=>if f x=true then some (i:Int) else .none) (-1) hb (fun n i x hx hi=>?_) (fun n=>?_) hF]
 ·simp only [Option.bind_some]
  congr 1
  have key:∀ (l:List ay) (i:Nat),decide (scan (fun i x=>if f x=true then some (i:Int) else .none) (-1:Int) i l ≥ 0)=l.any f:=by
   intro l
   induction l with
   | nil=>intro i; rfl
   | cons x l ih =>
    intro i
    unfold scan
    rw [List.any_cons]
    cases hf:f x with
    | true=>simp
    | false=>simp only [Bool.false_eq_true,if_false,Bool.false_or]; exact ih (i+1)
  exact key l 0
 ·simp only [Mq,Gp,jT hx,if_true,jr hx,Option.bind_some,jJ hi,hp x (List.mem_of_getElem? hx)]
  cases f x <;> simp
 ·simp only [Mq,Gp,jE,Bool.false_eq_true,if_false]
theorem Kl {F:Nat} {l:List ak} {e:ax} (h:iq l) (hF:400<F) (hk:e.Kind=4):lq F ⟨l⟩ e=some ((cP l e).1,⟨(cP l e).2⟩):=by
 unfold lq cP lA
 rw [vM h hF]
 simp only [Option.bind_some,hk,Hd,show ¬ ((4:Int)=1) by omega,show ¬ ((4:Int)=2) by omega,show ¬ ((4:Int)=3) by omega,if_false,true_or,or_true,if_true]
 cases hp:cG l e.Ref.ID with
 | none=>rfl
 | some j =>
  obtain ⟨iG,_⟩:=ef hp
  have hr:=h.ok l[j] (List.getElem_mem iG)
  simp only [List.getElem?_eq_getElem iG,kh,hk,show ¬ ((4:Int)=2) by omega,show ¬ ((4:Int)=3) by omega,if_false,if_true]
  by_cases hb:oE e l[j]
  ·simp only [hb,if_true,pY,show ¬ ((4:Int)=0) by omega,if_false]
  ·obtain ⟨q1,q2⟩:=BL hr hb
   simp only [hb,if_false,pY,dp iG,Option.bind_some,q1,wV]
   have hu:=hr.us
   by_cases hw:l[j].ae=true ∨ rr e l[j]=false
   ·have d:(l[j].ae || !(rr e l[j]))=true:=by simpa using hw
    simp only [d,hw,if_true,show ¬ ((8:Int)=0) by omega,if_false]
   ·have d:(l[j].ae || !(rr e l[j]))=false:=by simpa using hw
    simp only [d,hw,if_false,Bool.false_eq_true]
    rw [Hi (p:=fun a0=>Cw a0 e) (fun u=>u.Form == e.Form) (fun u _=>rfl) (by omega) (by omega)]
    simp only [Option.bind_some]
    by_cases ha:(l[j].Uses.any fun u=>u.Form == e.Form)=true
    ·simp only [ha,if_true,show ¬ ((5:Int)=0) by omega,if_false]
    ·simp only [ha,if_false,Bool.false_eq_true]
     by_cases h3:300≤l[j].Uses.length
     ·have d3:decide ((l[j].Uses.length:Int) ≥ 300)=true:=by simp; omega
      simp only [d3,h3,if_true,show ¬ ((3:Int)=0) by omega,if_false]
     ·have d3:decide ((l[j].Uses.length:Int) ≥ 300)=false:=by simp; omega
      simp only [d3,h3,if_false,Bool.false_eq_true,if_true]
      rw [c9 (by simp; omega)]
      rfl
theorem l9 {F:Nat} {l:List ak} {e:ax} (h:iq l) (hF:400<F) (hk:e.Kind=5 ∨ e.Kind=6):yZ F ⟨l⟩ e (decide (e.Kind=5))=some ((cP l e).1,⟨(cP l e).2⟩):=by
 have n1:¬ e.Kind=1:=by omega
 have n2:¬ e.Kind=2:=by omega
 have n3:¬ e.Kind=3:=by omega
 have n4:¬ e.Kind=4:=by omega
 unfold yZ cP lA
 rw [tO h hF]
 simp only [Option.bind_some,n1,n2,n3,n4,hk,Hd,if_false,false_or,if_true]
 cases hp:cG l e.Ref.ID with
 | none=>rfl
 | some j =>
  obtain ⟨iG,_⟩:=ef hp
  simp only [Option.map_some,List.getElem?_eq_getElem iG,kh,n2,n3,n4,if_false,pY]
  rw [show Int.ofNat j=(j:Int) from rfl,dp iG]
  simp only [Option.bind_some,beq_iff_eq]
  by_cases hw:l[j].ae=decide (e.Kind=5)
  ·simp only [hw,if_true,show ¬ ((8:Int)=0) by omega,if_false]
  ·simp only [hw,if_false,if_true]
   rfl
theorem DZ {l:List ak} (hs:ji l) {k:Nat} (hk:k<l.length) {b:ak} (hb:b.ID=l[k].ID):ji (l.set k b):=by
 unfold ji at *
 rw [List.pairwise_iff_getElem] at hs ⊢
 intro i j hi hj rQ
 rw [List.getElem_set,List.getElem_set]
 have gx:i<l.length:=by simpa using hi
 have Fa:j<l.length:=by simpa using hj
 split
 ·rename_i h1
  split
  ·omega
  ·subst h1; rw [hb]; exact hs _ _ gx Fa rQ
 ·split
  ·rename_i h1 h2; subst h2; rw [hb]; exact hs _ _ gx Fa rQ
  ·exact hs _ _ gx Fa rQ
theorem qY {l:List ak} {n:Int} (h:cG l n=.none):∀ x ∈ l,x.ID ≠ n:=fun x hx hn=>by
 unfold cG at h
 rw [List.findIdx?_eq_none_iff] at h
 have:=h x hx
 simp [hn] at this
theorem DY {l:List ak} (hs:ji l) {n:Int} (hn:cG l n=.none) {b:ak} (hb:b.ID=n):ji (l.take (jS l n)++[b]++l.drop (jS l n)):=by
 have hc:=sA hs n
 have hk:=nE l n
 have eA:=qY hn
 generalize jS l n=k at hc hk
 have h1:∀ x ∈ l.take k,x.ID<n:=fun x hx=>by
  obtain ⟨q,hq,rfl⟩:=List.getElem_of_mem hx
  simp only [List.length_take] at hq
  rw [List.getElem_take]
  exact (hc q (by omega)).1 (by omega)
 have h2:∀ x ∈ l.drop k,n<x.ID:=fun x hx=>by
  obtain ⟨q,hq,rfl⟩:=List.getElem_of_mem hx
  simp only [List.length_drop] at hq
  rw [List.getElem_drop]
  have:=(hc (k+q) (by omega))
  have h3:=eA _ (List.getElem_mem (show k+q<l.length by omega))
  omega
 unfold ji at *
 rw [List.append_assoc,List.pairwise_append]
 refine ⟨hs.sublist (List.take_sublist _ _),?_,?_⟩
 ·rw [List.singleton_append,List.pairwise_cons]
  exact ⟨fun x hx=>by rw [hb]; exact h2 x hx,hs.sublist (List.drop_sublist _ _)⟩
 ·intro x hx y hy
  rw [List.singleton_append] at hy
  rcases List.mem_cons.1 hy with rfl | hy
  ·rw [hb]; exact h1 x hx
  ·have:=h1 x hx; have:=h2 y hy; omega
theorem EP {r:ak} {e:ax}:(kh r e).2.ID=r.ID:=by
 unfold kh
 repeat' split
 all_goals rfl
theorem ER {r:ak} {e:ax} (h:sn r) (hc:e.Kind=2→jk e.Item=0∧e.Item.ID=r.ID):sn (kh r e).2:=by
 unfold kh
 split
 ·rename_i hk
  obtain ⟨c1,c2⟩:=hc hk
  split
  ·exact h
  ·rename_i h2
   simp only [not_or,ne_eq,Decidable.not_not] at h2
   have c3:=(vV (F:=100) (by omega) c1).2
   refine ⟨by simp,by simp; omega,by simp [h.ap],h.us,fun i x hx=>?_,fun u hu=>?_⟩
   ·simp only [List.getElem?_append] at hx
    split at hx
    ·exact h.vs i x hx
    ·rename_i hi
     rw [List.getElem?_singleton] at hx
     split at hx
     ·cases hx; exact ⟨c1,c2,by omega⟩
     ·cases hx
   ·have:=h.uv u hu
    simp only [List.length_append,List.length_singleton]
    omega
 ·split
  ·split
   ·exact h
   ·split
    ·exact h
    ·split
     ·exact h
     ·exact ⟨h.n1,h.n8,by simp [h.ap],h.us,h.vs,h.uv⟩
  ·split
   ·split
    ·exact h
    ·rename_i hb
     split
     ·exact h
     ·split
      ·exact h
      ·split
       ·exact h
       ·refine ⟨h.n1,h.n8,h.ap,by simp; omega,h.vs,fun u hu=>?_⟩
        rcases List.mem_append.1 hu with hu | hu
        ·exact h.uv u hu
        ·rw [List.mem_singleton] at hu
         subst hu
         unfold oE at hb
         simp only
         omega
   ·split
    ·exact h
    ·exact ⟨h.n1,h.n8,h.ap,h.us,h.vs,h.uv⟩
theorem uX {l:List ak} {e:ax} (h:iq l) (hc:e.Kind=2→jk e.Item=0):iq (lA l e).2:=by
 unfold lA
 cases hp:cG l (Hd e) with
 | none=>exact h
 | some k =>
  obtain ⟨hk,bB⟩:=ef hp
  simp only [List.getElem?_eq_getElem hk]
  split
  ·refine ⟨by simpa using h.len,DZ h.sort hk EP,fun r hr=>?_⟩
   rcases List.mem_or_eq_of_mem_set hr with hr | rfl
   ·exact h.ok r hr
   ·refine ER (h.ok _ (List.getElem_mem hk)) fun h2=>⟨hc h2,?_⟩
    rw [bB]; simp [Hd,h2]
  ·exact h
theorem nS {l:List ak} {e:ax} (h:iq l):iq (cP l e).2:=by
 unfold cP
 split
 ·unfold kg
  split
  ·exact h
  ·rename_i h1
   split
   ·exact h
   ·rename_i h2
    split
    ·exact h
    ·rename_i h3
     split
     ·exact h
     ·rename_i h4
      simp only [ne_eq,Decidable.not_not] at h1 h2
      have hp:cG l e.Item.ID=.none:=by simpa using h3
      unfold OO
      refine ⟨by simp; have:=nE l e.Item.ID; omega,DY h.sort hp rfl,fun r hr=>?_⟩
      simp only [List.mem_append,List.mem_singleton] at hr
      rcases hr with (hr | rfl) | hr
      ·exact h.ok r (List.mem_of_mem_take hr)
      ·refine ⟨by simp,by simp,by simp,by simp,fun i x hx=>?_,by simp⟩
       simp only [List.getElem?_singleton] at hx
       split at hx
       ·cases hx; rename_i hi; exact ⟨h1,rfl,by omega⟩
       ·cases hx
      ·exact h.ok r (List.mem_of_mem_drop hr)
 ·split
  ·split
   ·exact h
   ·rename_i h1; exact uX h fun _=>by simpa using h1
  ·rename_i h2
   split
   ·exact uX h fun hk=>absurd hk h2
   ·exact h
theorem BA {l:List ak} {e:ax} (h:(cP l e).1 ≠ 0):(cP l e).2=l:=by
 revert h
 unfold cP kg lA
 repeat' split
 all_goals simp_all
theorem qb:iq []:=⟨by simp,by simp [ji],by simp⟩
end Go.Sh
namespace Go.Sh
open Go.L
def xh (r:ak) (i:Nat) (x:ai):Bool:=decide (jk x=0) && (decide (x.ID=r.ID) && decide (x.Version=(i:Int)+1))
def qI (r:ak) (u:ay):Bool:=decide (1≤u.Version) && decide (u.Version≤(r.ab.length:Int))
def p4 (r:ak):Bool:=!(decide ((r.ab.length:Int)<1) || (decide ((r.ab.length:Int) > 8) || (((r.ah.length:Int) != (r.ab.length:Int)) || decide ((r.Uses.length:Int) > 300)))) &&
 scan (fun i x=>if xh r i x=true then .none else some false) (r.Uses.all (qI r)) 0 r.ab
theorem uP {F:Nat} {r:ak} (hF:400<F):DL F r=some (p4 r):=by
 unfold DL p4
 cases h1:(decide ((r.ab.length:Int)<1) || (decide ((r.ab.length:Int) > 8) || (((r.ah.length:Int) != (r.ab.length:Int)) || decide ((r.Uses.length:Int) > 300)))) with
 | true=>simp
 | false =>
  simp only [Bool.or_eq_false_iff,decide_eq_false_iff_not] at h1
  simp only [Bool.false_eq_true,if_false,Bool.not_false,Bool.true_and]
  refine gn _ _ (by omega) (fun n i x hx hi=>?_) (fun n=>?_) (by omega)
  ·have Xa:i<8:=by have:=(List.getElem?_eq_some_iff.1 hx).1; omega
   have hw:i64 ((i:Int)+1)=(i:Int)+1:=by rw [cX (by omega) (by omega)]
   simp only [DE,GA,jT hx,if_true,jr hx,Option.bind_some,vU (show 50<F by omega),wV,hw]
   have e:xh r i x=!((jk x != 0) || (x.ID != r.ID || x.Version != (i:Int)+1)):=by
    unfold xh
    refine I2 ?_
    simp only [Bool.and_eq_true,decide_eq_true_eq,Bool.not_eq_true',Bool.or_eq_false_iff,bne_eq_false_iff_eq]
   rw [e]
   cases ((jk x != 0) || (x.ID != r.ID || x.Version != (i:Int)+1)) <;> simp
  ·simp only [DE,GA,jE,Bool.false_eq_true,if_false]
   refine BK (L:=Bd r) (qI r) (by omega) (fun n i x hx hi=>?_) (fun n=>?_) (by omega)
   ·simp only [Bd,GB,jT hx,if_true,jr hx,Option.bind_some,jJ hi]
    have e:qI r x=!(decide (x.Version<1) || decide (x.Version > (r.ab.length:Int))):=by
     unfold qI
     refine I2 ?_
     simp only [Bool.and_eq_true,decide_eq_true_eq,Bool.not_eq_true',Bool.or_eq_false_iff,decide_eq_false_iff_not]
     omega
    rw [e]
    cases (decide (x.Version<1) || decide (x.Version > (r.ab.length:Int))) <;> simp
   ·simp only [Bd,GB,jE,Bool.false_eq_true,if_false]
theorem GY {r:ak}:p4 r=true ↔ sn r:=by
 unfold p4
 rw [Bool.and_eq_true,qD]
 simp only [Bool.not_eq_true',Bool.or_eq_false_iff,decide_eq_false_iff_not,bne_eq_false_iff_eq,List.all_eq_true,qI,xh,Bool.and_eq_true,decide_eq_true_eq,Nat.zero_add]
 constructor
 ·rintro ⟨⟨a,b,c,d⟩,e,f⟩
  exact ⟨by omega,by omega,by omega,by omega,fun i x hx=>f i x hx,fun u hu=>e u hu⟩
 ·intro h
  have:=h.n1; have:=h.n8; have:=h.ap; have:=h.us
  exact ⟨⟨by omega,by omega,by omega,by omega⟩,fun u hu=>h.uv u hu,fun i x hx=>h.vs i x hx⟩
def IC (l:List ak) (i:Nat) (x:ak):Bool:=!(decide (0<i) && decide ((l.getD (i - 1) default).ID ≥ x.ID)) && p4 x
def jb (l:List ak):Bool:=decide (l.length≤40) && scan (fun i x=>if IC l i x=true then .none else some false) true 0 l
theorem JR {l:List ak} {i:Nat} {x:ak} (hi:i<1000000) (hx:l[i]?=some x) (h0:0<i):idx l (i64 ((i:Int) - 1))=some (l.getD (i - 1) default):=by
 have h1:=(List.getElem?_eq_some_iff.1 hx).1
 rw [cX (by omega) (by omega),show (i:Int) - 1=((i - 1:Nat):Int) by omega,nH]
 rw [List.getD_eq_getElem?_getD,List.getElem?_eq_getElem (show i - 1<l.length by omega)]; rfl
theorem zP {F:Nat} {l:List ak} (hF:400<F):vD F ⟨l⟩=some (jb l):=by
 unfold vD jb
 by_cases h:l.length≤40
 ·have d:decide ((l.length:Int) > 40)=false:=by simp; omega
  simp only [d,Bool.false_eq_true,if_false,h,decide_true,Bool.true_and]
  refine gn _ _ (by omega) (fun n i x hx hi=>?_) (fun n=>?_) (by omega)
  ·simp only [vo,yD,jT hx,if_true,jr hx,Option.bind_some,jJ hi,uP hF]
   unfold IC
   by_cases h0:0<i
   ·have d:decide ((i:Int) > 0)=true:=by simp; exact h0
    simp only [d,if_true,JR hi hx h0,Option.bind_some,wV,h0,decide_true,Bool.true_and]
    cases decide ((l.getD (i - 1) default).ID ≥ x.ID) <;> cases p4 x <;> simp
   ·have d:decide ((i:Int) > 0)=false:=by simp; omega
    simp only [d,Bool.false_eq_true,if_false,Option.bind_some,h0,decide_false,Bool.false_and,Bool.not_false,Bool.true_and]
    cases p4 x <;> simp
  ·simp only [vo,yD,jE,Bool.false_eq_true,if_false]
 ·have d:decide ((l.length:Int) > 40)=true:=by simp; omega
  simp [d,h]
theorem DX {l:List ak} (h:∀ (i:Nat) x,l[i]?=some x→0<i→(l.getD (i - 1) default).ID<x.ID):ji l:=by
 unfold ji
 rw [List.pairwise_iff_getElem]
 have key:∀ (d i:Nat) (hi:i<l.length) (hj:i+d+1<l.length),l[i].ID<l[i+d+1].ID:=by
  intro d
  induction d with
  | zero =>
   intro i hi hj
   have:=h (i+1) l[i+1] (by simp) (by omega)
   simpa [hi] using this
  | succ d ih =>
   intro i hi hj
   have h1:=ih i hi (by omega)
   have:=h (i+(d+1)+1) l[i+(d+1)+1] (by simp) (by omega)
   rw [show i+(d+1)+1 - 1=i+d+1 by omega,List.getD_eq_getElem?_getD,List.getElem?_eq_getElem (show i+d+1<l.length by omega)] at this
   simp only [Option.getD_some] at this
   omega
 intro i j hi hj rQ
 have:=key (j - i - 1) i hi (by omega)
 have e:i+(j - i - 1)+1=j:=by omega
 simpa only [e] using this
theorem kz {l:List ak}:jb l=true ↔ iq l:=by
 unfold jb
 rw [Bool.and_eq_true,qD,decide_eq_true_eq]
 simp only [IC,Bool.and_eq_true,Bool.not_eq_true',Bool.and_eq_false_iff,decide_eq_false_iff_not,GY,Nat.zero_add,true_and]
 constructor
 ·rintro ⟨h1,h2⟩
  refine ⟨h1,DX fun i x hx h0=>?_,fun r hr=>?_⟩
  ·have:=(h2 i x hx).1; omega
  ·obtain ⟨i,hi⟩:=List.getElem?_of_mem hr
   exact (h2 i r hi).2
 ·intro h
  refine ⟨h.len,fun j x hx=>⟨?_,h.ok x (List.mem_of_getElem? hx)⟩⟩
  by_cases h0:0<j
  ·right
   obtain ⟨hj,rfl⟩:=List.getElem?_eq_some_iff.1 hx
   have:=List.pairwise_iff_getElem.1 h.sort (j - 1) j (by omega) hj (by omega)
   rw [List.getD_eq_getElem?_getD,List.getElem?_eq_getElem (show j - 1<l.length by omega)]
   simp only [Option.getD_some]; omega
  ·left; exact h0
structure uQ (F:Nat) (r:ak):Prop where
 vl:r.ab.length<1000000∧r.ab.length<F
 v:∀ x ∈ r.ab,Hq F x
 a:r.ah.length<1000000∧r.ah.length<F
 u:r.Uses.length<1000000∧r.Uses.length<F
theorem sn.sh {F:Nat} {r:ak} (h:sn r) (hF:400<F):uQ F r:=by
 have:=h.n8; have:=h.ap; have:=h.us
 refine ⟨by omega,fun x hx=>?_,by omega,by omega⟩
 obtain ⟨i,hi⟩:=List.getElem?_of_mem hx
 exact (vV (by omega) (h.vs i x hi).1).1
structure jC (F:Nat) (l:List ak):Prop where
 l1:l.length<1000000
 l2:l.length<F
 r:∀ r ∈ l,uQ F r
theorem iq.sh {F:Nat} {l:List ak} (h:iq l) (hF:400<F):jC F l :=
 ⟨by have:=h.len; omega,by have:=h.len; omega,fun r hr=>(h.ok r hr).sh hF⟩
theorem ux {F:Nat} {r:ak} (h:uQ F r):yr F r=some r:=by
 unfold yr
 rw [qw (by have:=h.vl.1; omega),Option.bind_some]
 have:=xD (a:=r.ab) (L:=Bc r) (z:=ai.mk 0 0 (ByteArray.mk #[]) [] []) (F:=F) id (fun l=>ak.mk r.ID l r.ah r.Uses r.ae)
  (fun n i x l l' hx hl=>by
   have hi:i<1000000:=by have:=(List.getElem?_eq_some_iff.1 hx).1; have:=h.vl.1; omega
   simp only [Bc,Gz,jT hx,if_true,jr hx,Option.bind_some,kL (h.v x (List.mem_of_getElem? hx)),jJ hi]
   rw [lV hl,Option.bind_some,nR hl]; rfl)
  (fun n l=>by
   simp only [Bc,Gz,jE,Bool.false_eq_true,if_false]
   rw [c9 (by simp; have:=h.a.1; omega),Option.bind_some,c9 (by simp; have:=h.u.1; omega)]
   rfl) h.vl.2
 rw [this]; simp
theorem xB {F:Nat} {l:List ak} (h:jC F l):uH F ⟨l⟩=some ⟨l⟩:=by
 unfold uH
 rw [qw (by have:=h.l1; simp; omega),Option.bind_some]
 have:=xD (a:=l) (L:=Bj F ⟨l⟩) (z:=ak.mk 0 [] [] [] false) (F:=F) id (fun l=>aG.mk l)
  (fun n i x q q' hx hl=>by
   have hi:i<1000000:=by have:=(List.getElem?_eq_some_iff.1 hx).1; have:=h.l1; omega
   simp only [Bj,GN,jT hx,if_true,jr hx,Option.bind_some,ux (h.r x (List.mem_of_getElem? hx)),jJ hi]
   rw [lV hl,Option.bind_some,nR hl]; rfl)
  (fun n l=>by simp only [Bj,GN,jE,Bool.false_eq_true,if_false]) h.l2
 rw [this]; simp
def kW (l:List ak) (e:ax):List ak × Int :=
 if jb l=true then (if (cP l e).1=0 then ((cP l e).2,0) else ([],(cP l e).1)) else ([],1)
theorem oD {l:List ak} {e:ax} (h:iq l):kW l e=if (cP l e).1=0 then ((cP l e).2,0) else ([],(cP l e).1):=by
 unfold kW; rw [if_pos (kz.2 h)]
theorem HJ {F:Nat} {l:List ak} {e:ax} (hF:400<F):y1 F ⟨l⟩ e=some (⟨(kW l e).1⟩,(kW l e).2):=by
 unfold y1
 rw [zP hF]
 simp only [Option.bind_some]
 cases hv:jb l with
 | false=>simp [kW,hv]
 | true =>
  have h:=kz.1 hv
  rw [oD h]
  simp only [Bool.not_true,Bool.false_eq_true,if_false,xB (h.sh hF),Option.bind_some,beq_iff_eq]
  have fin:∀ c:Int × List ak,(if (c.1 != 0)=true then some ((aG.mk []),c.1) else some (aG.mk c.2,0))=some (aG.mk (if c.1=0 then (c.2,(0:Int)) else ([],c.1)).1,(if c.1=0 then (c.2,(0:Int)) else ([],c.1)).2):=fun c=>by
   by_cases h0:c.1=0 <;> simp [h0]
  by_cases h1:e.Kind=1
  ·have e1:cP l e=kg l e:=by unfold cP; rw [if_pos h1]
   simp only [h1,if_true,BT h hF,Option.bind_some]
   rw [e1]; exact fin _
  ·by_cases h2:e.Kind=2
   ·simp only [h2,show ¬ ((2:Int)=1) by omega,if_false,if_true,zj h hF h2,Option.bind_some]
    exact fin _
   ·by_cases h3:e.Kind=3
    ·simp only [h3,show ¬ ((3:Int)=1) by omega,show ¬ ((3:Int)=2) by omega,if_false,if_true,uR h hF h3,Option.bind_some]
     exact fin _
    ·by_cases h4:e.Kind=4
     ·simp only [h4,show ¬ ((4:Int)=1) by omega,show ¬ ((4:Int)=2) by omega,show ¬ ((4:Int)=3) by omega,if_false,if_true,Kl h hF h4,Option.bind_some]
      exact fin _
     ·by_cases h5:e.Kind=5
      ·have:=l9 h hF (.inl h5)
       rw [show decide (e.Kind=5)=true by simp [h5]] at this
       simp only [h1,h2,h3,h4,h5,if_false,if_true,this,Option.bind_some,show ¬ ((5:Int)=1) by omega,show ¬ ((5:Int)=2) by omega,show ¬ ((5:Int)=3) by omega,show ¬ ((5:Int)=4) by omega]
       exact fin _
      ·by_cases h6:e.Kind=6
       ·have:=l9 h hF (.inr h6)
        rw [show decide (e.Kind=5)=false by simp [h5]] at this
        simp only [h6,if_false,if_true,this,Option.bind_some,show ¬ ((6:Int)=1) by omega,show ¬ ((6:Int)=2) by omega,show ¬ ((6:Int)=3) by omega,show ¬ ((6:Int)=4) by omega,show ¬ ((6:Int)=5) by omega]
        exact fin _
       ·have e1:cP l e=(2,l):=by unfold cP; simp [h1,h2,h3,h4,h5,h6]
        simp only [h1,h2,h3,h4,h5,h6,if_false,e1]
        simp
def LU (e:ax):si:=⟨e.ar.Source,e.ar.Seq⟩
def jM:List ax→List ak→List cg→List ak × List cg
 | [],l,r=>(l,r)
 | e :: s,l,r=>jM s (cP l e).2 (if (cP l e).1=0 then r else r++[⟨LU e,(cP l e).1⟩])
def kH (u:Int) (l:List ax):List ax:=l.takeWhile fun e=>decide (e.ar.Time≤u)
def mi (ev:List ax) (u:Int):List ak × List cg × Int :=
 let c:=gO (·.ar) ev
 if c.2 ≠ 0 then ([],[],c.2) else ((jM (kH u c.1) [] []).1,(jM (kH u c.1) [] []).2,0)
theorem CW {F:Nat} {u:Int} {c:List ax} {z:Int} (hF:400<F) (hb:c.length<1000000):∀ (s p:List ax) (n:Nat) (l:List ak) (r:List cg),c=p++s→s.length<n→iq l→r.length≤p.length→wH F u (c,z) n (p.length:Int) r l=some (⟨(jM (kH u s) l r).1⟩,(jM (kH u s) l r).2,0):=by
 intro s
 induction s with
 | nil=>intro p n l r hp hn hv hr; cases n with
  | zero=>omega
  | succ n =>
   have:c=p:=by simpa using hp
   subst this
   simp only [wH,yK,Int.lt_irrefl,decide_false,Bool.false_eq_true,if_false,kH,List.takeWhile_nil,jM]
 | cons e s ih=>intro p n l r hp hn hv hr; cases n with
  | zero=>omega
  | succ n =>
   have hlen:p.length<1000000:=by rw [hp] at hb; simp at hb; omega
   have d1:decide ((p.length:Int)<(c.length:Int))=true:=by rw [hp]; exact HL p e s
   have i1:idx c (p.length:Int)=some e:=by rw [hp]; exact jH p e s
   simp only [wH,yK,d1,if_true,i1,Option.bind_some]
   by_cases hu:e.ar.Time≤u
   ·have d2 : decide (e.ar.Time > u) = false := by simp; omega
    have hw:kH u (e :: s)=e :: kH u s:=by unfold kH; rw [List.takeWhile_cons_of_pos (by simpa using hu)]
    have zZ:(cg.mk (LU e) 0)=(cg.mk (LU e) 0):=rfl
    have fin:∀ c':Int × List ak,cP l e=c'→(if (c'.1 != 0)=true then (app r [cg.mk (si.mk e.ar.Source e.ar.Seq) c'.1]).bind fun v=>wH F u (c,z) n (i64 ((p.length:Int)+1)) v c'.2 else wH F u (c,z) n (i64 ((p.length:Int)+1)) r c'.2)
      = some (⟨(jM (kH u (e :: s)) l r).1⟩,(jM (kH u (e :: s)) l r).2,0):=fun c' xi=>by
     rw [hw]
     simp only [jM,xi,L8 p e (show p.length<1000000000 by omega)]
     have u3:iq c'.2:=by rw [← xi]; exact nS hv
     by_cases h0:c'.1=0
     ·simp only [h0,bne_self_eq_false,Bool.false_eq_true,if_false,if_true]
      exact ih (p++[e]) n _ r (by rw [hp]; simp) (by simpa using hn) u3 (by simp; omega)
     ·have HT:(c'.1 != 0)=true:=by simp [h0]
      simp only [h0,HT,if_true,if_false]
      rw [c9 (by simp; omega),Option.bind_some]
      exact ih (p++[e]) n _ _ (by rw [hp]; simp) (by simpa using hn) u3 (by simp; omega)
    simp only [d2,Bool.false_eq_true,if_false,beq_iff_eq]
    by_cases h1:e.Kind=1
    ·have e1:cP l e=kg l e:=by unfold cP; rw [if_pos h1]
     simp only [h1,if_true,BT hv hF,Option.bind_some]
     exact fin _ e1
    ·by_cases h2:e.Kind=2
     ·simp only [h2,show ¬ ((2:Int)=1) by omega,if_false,if_true,zj hv hF h2,Option.bind_some]
      exact fin _ rfl
     ·by_cases h3:e.Kind=3
      ·simp only [h3,show ¬ ((3:Int)=1) by omega,show ¬ ((3:Int)=2) by omega,if_false,if_true,uR hv hF h3,Option.bind_some]
       exact fin _ rfl
      ·by_cases h4:e.Kind=4
       ·simp only [h4,show ¬ ((4:Int)=1) by omega,show ¬ ((4:Int)=2) by omega,show ¬ ((4:Int)=3) by omega,if_false,if_true,Kl hv hF h4,Option.bind_some]
        exact fin _ rfl
       ·by_cases h5:e.Kind=5
        ·have:=l9 hv hF (.inl h5)
         rw [show decide (e.Kind=5)=true by simp [h5]] at this
         simp only [h5,if_false,if_true,this,Option.bind_some,show ¬ ((5:Int)=1) by omega,show ¬ ((5:Int)=2) by omega,show ¬ ((5:Int)=3) by omega,show ¬ ((5:Int)=4) by omega]
         exact fin _ rfl
        ·by_cases h6:e.Kind=6
         ·have:=l9 hv hF (.inr h6)
          rw [show decide (e.Kind=5)=false by simp [h5]] at this
          simp only [h6,if_false,if_true,this,Option.bind_some,show ¬ ((6:Int)=1) by omega,show ¬ ((6:Int)=2) by omega,show ¬ ((6:Int)=3) by omega,show ¬ ((6:Int)=4) by omega,show ¬ ((6:Int)=5) by omega]
          exact fin _ rfl
         ·have e1:cP l e=(2,l):=by unfold cP; simp [h1,h2,h3,h4,h5,h6]
          simp only [h1,h2,h3,h4,h5,h6,if_false]
          exact fin _ e1
   ·have d2:decide (e.ar.Time > u)=true:=by simp; omega
    have hw:kH u (e :: s)=[]:=by unfold kH; rw [List.takeWhile_cons_of_neg (by simpa using hu)]
    simp [d2,hw,jM]
theorem su {E:Type} [DecidableEq E] (st:E→aL) (l:List E):(gO st l).1.length≤l.length:=by
 unfold gO
 split
 ·simp
 ·exact Kw st l
theorem Kx {F:Nat} (hF:400<F) {ev:List ax} {u:Int} (hc:qL F ev) (hb:ev.length<1000000) (R9:ev.length<F):lp F ev u=some (⟨(mi ev u).1⟩,(mi ev u).2.1,(mi ev u).2.2):=by
 unfold lp mi
 rw [vS (by omega) hc hb R9]
 simp only [Option.bind_some]
 have hle:=su (fun x:ax=>x.ar) ev
 generalize gO (fun x:ax=>x.ar) ev=c at hle
 by_cases h0:c.2=0
 ·simp only [h0,bne_self_eq_false,Bool.false_eq_true,if_false,ne_eq,not_true_eq_false]
  have:=CW (c:=c.1) (u:=u) (z:=c.2) hF (by omega) c.1 [] F [] [] rfl (by omega) qb (by simp)
  exact this
 ·have:(c.2 != 0)=true:=by simp [h0]
  simp [this,h0]
theorem u0:∀ {s:List ax} {l:List ak} {r:List cg},iq l→iq (jM s l r).1
 | [],l,r,h=>h
 | e :: s,l,r,h=>by unfold jM; exact u0 (nS h)
theorem CV {ev:List ax} {u:Int}:iq (mi ev u).1:=by
 unfold mi
 simp only
 split
 ·exact qb
 ·exact u0 qb
end Go.Sh
namespace Go.Sh
open Go.L
def Hn:ak:=ak.mk 0 [] [] [] false
def I5 (l:List ak) (c:Int):ak × Bool:=match l.find? (fun r=>decide (r.ID=c)) with | some r=>(r,true) | .none=>(Hn,false)
def yf (l:List Bool):Nat→Option Nat
 | 0=>.none
 | j+1=>if l.getD j false=true then some j else yf l j
def Nq (time rest iE:Int) (r:ak):Option bR :=
 if r.ae=true ∨ (r.Uses.length:Int) > iE then .none
 else if r.Uses.any (fun u=>decide (u.Time > time - rest))=true then .none
 else (yf r.ah r.ah.length).map fun (j:Nat)=>⟨r.ID,(j:Int)+1⟩
def BU (l:List ak) (time rest iE:Int):List bR :=
 if jb l=false ∨ time<0 ∨ time > 1000000 ∨ rest<0 ∨ rest > 1000000 ∨ iE<0 then [] else l.filterMap (Nq time rest iE)
theorem Nr {aK:Int→List bR→Option (List bR)} {n10:Int} {gP:List bR} {x:ak} (ha:x.ah.length<1000000) (hl:gP.length<1000000):∀ (j n:Nat),j≤x.ah.length→j<n →
  Bn aK n10 gP x n ((j:Int) - 1)=aK (i64 (n10+1)) (gP++((yf x.ah j).map fun (k:Nat)=>bR.mk x.ID ((k:Int)+1)).toList):=by
 intro j
 induction j with
 | zero=>intro n hj hn; cases n with
  | zero=>omega
  | succ n =>
   have d:decide (((0:Nat):Int) - 1 ≥ 0)=false:=by simp
   simp only [Bn,GR,d,Bool.false_eq_true,if_false,yf,Option.map_none,Option.toList_none,List.append_nil]
 | succ j ih=>intro n hj hn; cases n with
  | zero=>omega
  | succ n =>
   have d:decide (((j+1:Nat):Int) - 1 ≥ 0)=true:=by simp
   have e:((j+1:Nat):Int) - 1=(j:Int):=by omega
   have iG:j<x.ah.length:=by omega
   simp only [Bn,GR,d,if_true]
   rw [e,dp iG]
   have hg:x.ah.getD j false=x.ah[j]:=by rw [List.getD_eq_getElem?_getD,List.getElem?_eq_getElem iG]; rfl
   simp only [Option.bind_some,yf,hg]
   cases hx:x.ah[j] with
   | true =>
    simp only [if_true,Option.map_some,Option.toList_some]
    rw [c9 (by simp; omega),Option.bind_some]
    have hw:i64 ((j:Int)+1)=(j:Int)+1:=by rw [cX (by omega) (by omega)]
    rw [hw]
   | false =>
    simp only [Bool.false_eq_true,if_false]
    rw [cX (by omega) (by omega)]
    exact ih n (by omega) (by omega)
theorem ow {α β:Type} (f:α→Option β):∀ (l:List α) (i:Nat) (s:List β),run (fun _ x s=>(.inr (s++(f x).toList):List β ⊕ List β)) id i l s=s++l.filterMap f
 | [],i,s=>by simp [run]
 | x :: l,i,s=>by
  unfold run
  simp only
  rw [ow f l,List.filterMap_cons]
  cases f x <;> simp
theorem sC {F:Nat} {l:List ak} {time rest iE:Int} (hF:400<F):vn F ⟨l⟩ time rest iE=some (BU l time rest iE):=by
  unfold vn BU
  rw [zP hF]
  simp only [Option.bind_some,wV]
  by_cases hc:jb l=false ∨ time<0 ∨ time > 1000000 ∨ rest<0 ∨ rest > 1000000 ∨ iE<0
  · have d:(!(jb l) || (decide (time<0) || (decide (time > 1000000) || (decide (rest<0) || (decide (rest > 1000000) || decide (iE<0))))))=true:=by simpa using hc
    simp only [d,if_true,hc]
  · have d:(!(jb l) || (decide (time<0) || (decide (time > 1000000) || (decide (rest<0) || (decide (rest > 1000000) || decide (iE<0))))))=false:=by simpa using hc
    simp only [d,Bool.false_eq_true,if_false,hc]
    simp only [not_or,Bool.not_eq_false] at hc
    obtain ⟨hv,h1,h2,h3,h4,h5⟩:=hc
    have hV:=kz.1 hv
    have hS:=hV.sh hF
    have hw:i64 (time - rest)=time - rest:=by rw [cX (by omega) (by omega)]
    have hlen:=hV.len
    have:=G1 (a:=l) (L:=Bm F ⟨l⟩ time rest iE) (s0:=([]:List bR)) (F:=F) (fun _ x s=>(.inr (s++(Nq time rest iE x).toList):List bR ⊕ List bR)) id (fun i s=>s.length≤i) hS.l1 (fun n i x s hx hI=>?_) (fun n s hI=>?_) hS.l2 (by simp)
    · rw [this,ow]; simp
    · have Rz:=List.mem_of_getElem? hx
      have hi:i<1000000:=by have:=(List.getElem?_eq_some_iff.1 hx).1; omega
      have gD:=hV.ok x Rz
      refine ⟨?_, by simp only [List.length_append]; have : (Nq time rest iE x).toList.length ≤ 1 := by cases Nq time rest iE x <;> simp
                     omega⟩
      simp only [Bm,GQ,jT hx,if_true,jr hx,Option.bind_some,jJ hi]
      unfold Nq
      by_cases a1:x.ae=true ∨ (x.Uses.length:Int) > iE
      · have d1:(x.ae || decide ((x.Uses.length:Int) > iE))=true:=by simpa using a1
        simp only [d1,if_true,a1,Option.toList_none,List.append_nil]
      · have d1:(x.ae || decide ((x.Uses.length:Int) > iE))=false:=by simpa using a1
        simp only [d1,Bool.false_eq_true,if_false,a1]
        rw [Hi (p:=fun a0=>yC a0 time rest) (fun u=>decide (u.Time > time - rest)) (fun u _=>by unfold yC; rw [hw]) (hS.r x Rz).u.1 (hS.r x Rz).u.2]
        simp only [Option.bind_some]
        by_cases a2:(x.Uses.any fun u=>decide (u.Time > time - rest))=true
        · simp only [a2,if_true,Option.toList_none,List.append_nil]
        · simp only [a2,if_false,Bool.false_eq_true]
          have ha:=(hS.r x Rz).a
          rw [cX (by omega) (by omega),Nr ha.1 (by omega) x.ah.length F (Nat.le_refl _) ha.2]
          rw [jJ hi]
    · simp only [Bm,GQ,jE,Bool.false_eq_true,if_false]; rfl
theorem BN {F:Nat} (hF:2000≤F):vA F=some true:=by
 unfold vA
 rw [Kx (by omega) (fun e he=>by
  simp only [List.mem_cons,List.not_mem_nil,or_false] at he
  unfold Hq
  rcases he with rfl | rfl | rfl <;> simp <;> omega) (by simp) (by simp; omega)]
 have h1:mi [(ax.mk (aL.mk 3 0 2) 4 (ai.mk 0 0 (ByteArray.mk #[]) [] []) (bR.mk 5 1) 9),(ax.mk (aL.mk 1 0 0) 1 (ai.mk 5 1 (ByteArray.mk #[113]) [(aq.mk 1 3 0 0 0 0)] []) (bR.mk 0 0) 0),(ax.mk (aL.mk 2 0 1) 3 (ai.mk 0 0 (ByteArray.mk #[]) [] []) (bR.mk 5 1) 0)] 100
  = ([ak.mk 5 [ai.mk 5 1 (ByteArray.mk #[113]) [(aq.mk 1 3 0 0 0 0)] []] [true] [ay.mk 1 9 3] false],[],0):=by decide +kernel
 rw [h1]
 simp only [Option.bind_some]
 rw [sC (by omega),sC (by omega)]
 have h2:BU [ak.mk 5 [ai.mk 5 1 (ByteArray.mk #[113]) [(aq.mk 1 3 0 0 0 0)] []] [true] [ay.mk 1 9 3] false] 10 7 1=[bR.mk 5 1]:=by decide +kernel
 have h3:BU [ak.mk 5 [ai.mk 5 1 (ByteArray.mk #[113]) [(aq.mk 1 3 0 0 0 0)] []] [true] [ay.mk 1 9 3] false] 10 8 1=[]:=by decide +kernel
 rw [h2,h3]
 simp [idx]
theorem wW {F:Nat} {a b:ak} (h:uQ F a):yt F a b=some (decide (a=b)):=by
 unfold yt
 cases hc:((a.ID != b.ID) || ((!(a.ae == b.ae)) || (((a.ab.length:Int) != (b.ab.length:Int)) || (((a.ah.length:Int) != (b.ah.length:Int)) || ((a.Uses.length:Int) != (b.Uses.length:Int)))))) with
 | true =>
  have:a ≠ b:=fun mj=>by subst mj; simp at hc
  simp [this]
 | false =>
  simp only [Bool.or_eq_false_iff,bne_eq_false_iff_eq,Bool.not_eq_false',beq_iff_eq] at hc
  obtain ⟨c1,c2,c3,c4,c5⟩:=hc
  simp only [Bool.false_eq_true,if_false]
  have l3:Bf a b F 0=some (decide (a.Uses=b.Uses)):=by
   refine vY (by omega) h.u.1 (fun n i x y hx hy hi=>?_) (fun n=>?_) h.u.2
   ·simp only [Bf,GF,jT hx,if_true,jr hx,jr hy,Option.bind_some,jJ hi]
    by_cases lD:x=y <;> simp [lD]
   ·simp only [Bf,GF,jE,Bool.false_eq_true,if_false]
  have l2:y5 F a b F 0=some (decide (a.ah=b.ah) && decide (a.Uses=b.Uses)):=by
   rw [gn (a:=a.ah) (L:=y5 F a b) (fun i x=>if b.ah[i]?=some x then .none else some false) (decide (a.Uses=b.Uses)) h.a.1 (fun n i x hx hi=>?_) (fun n=>?_) h.a.2]
   ·have:=ua a.ah b.ah [] (decide (a.Uses=b.Uses)) (by omega)
    exact congrArg some this
   ·have gx:i<b.ah.length:=by have:=(List.getElem?_eq_some_iff.1 hx).1; omega
    simp only [y5,GD,jT hx,if_true,jr hx,dp gx,Option.bind_some,jJ hi]
    by_cases lD:x=b.ah[i]
    ·simp [lD,gx]
    ·have LQ:¬ b.ah[i]=x:=fun hh=>lD hh.symm
     simp [lD,LQ,gx]
   ·simp only [y5,GD,jE,Bool.false_eq_true,if_false,l3]
  rw [gn (a:=a.ab) (L:=Be F a b) (fun i x=>if b.ab[i]?=some x then .none else some false) (decide (a.ah=b.ah) && decide (a.Uses=b.Uses)) h.vl.1 (fun n i x hx hi=>?_) (fun n=>?_) h.vl.2]
  ·have:=ua a.ab b.ab [] (decide (a.ah=b.ah) && decide (a.Uses=b.Uses)) (by omega)
   refine (congrArg some this).trans (congrArg some (I2 ?_))
   obtain ⟨i,v,p,u,w⟩:=a
   obtain ⟨i',v',p',u',w'⟩:=b
   simp only at c1 c2
   subst c1; subst c2
   simp only [Bool.and_eq_true,decide_eq_true_eq,ak.mk.injEq,true_and,and_true]
  ·have gx:i<b.ab.length:=by have:=(List.getElem?_eq_some_iff.1 hx).1; omega
   simp only [Be,GC,jT hx,if_true,jr hx,dp gx,Option.bind_some,jJ hi,ra (h.v x (List.mem_of_getElem? hx))]
   by_cases lD:x=b.ab[i]
   ·simp [lD,gx]
   ·have LQ:¬ b.ab[i]=x:=fun hh=>lD hh.symm
    simp [lD,LQ,gx]
  ·simp only [Be,GC,jE,Bool.false_eq_true,if_false,l2]
theorem Bu {F:Nat} {a b:List ak} (h:jC F a):y2 F ⟨a⟩ ⟨b⟩=some (decide (a=b)):=by
 unfold y2
 by_cases hl:a.length=b.length
 ·have h1:((a.length:Int) != (b.length:Int))=false:=by simp [hl]
  simp only [h1,Bool.false_eq_true,if_false]
  refine vY hl h.l1 (fun n i x y hx hy hi=>?_) (fun n=>?_) h.l2
  ·simp only [vr,yF,jT hx,if_true,jr hx,jr hy,Option.bind_some,jJ hi,wW (h.r x (List.mem_of_getElem? hx))]
   by_cases lD:x=y <;> simp [lD]
  ·simp only [vr,yF,jE,Bool.false_eq_true,if_false]
 ·have h1:((a.length:Int) != (b.length:Int))=true:=by simp; omega
  have h2:a ≠ b:=fun mj=>hl (by rw [mj])
  simp [h1,h2]
end Go.Sh
namespace Go.Sh
open Go.L
abbrev cR {α:Type} (x:Option α) (P:α→Prop):Prop:=∃ a,x=some a∧P a
theorem cR.bind {α β:Type} {x:Option α} {f:α→Option β} {P:α→Prop} {Q:β→Prop} (h:cR x P) (k:∀ a,P a→cR (f a) Q):cR (x.bind f) Q:=by
 obtain ⟨a,rfl,ha⟩:=h; exact k a ha
theorem cR.pure {α:Type} {a:α} {P:α→Prop} (h:P a):cR (some a) P:=⟨a,rfl,h⟩
theorem cR.ite {α:Type} {c:Prop} [Decidable c] {a b:Option α} {P:α→Prop} (h1:c→cR a P) (h2:¬ c→cR b P):cR (if c then a else b) P:=by
 by_cases h:c
 ·rw [if_pos h]; exact h1 h
 ·rw [if_neg h]; exact h2 h
theorem cR.app {α β:Type} {xs ys:List α} {f:List α→Option β} {Q:β→Prop} (h:xs.length+ys.length≤549755813888) (k:cR (f (xs++ys)) Q):cR ((app xs ys).bind f) Q:=by
 rw [c9 h]; exact k
theorem cR.idx {α β:Type} {l:List α} {i:Int} {f:α→Option β} {Q:β→Prop} (h0:0≤i) (h1:i<(l.length:Int)) (k:∀ x,x ∈ l→l[i.toNat]?=some x→cR (f x) Q):cR ((idx l i).bind f) Q:=by
 obtain ⟨j,rfl⟩:=Int.eq_ofNat_of_zero_le h0
 have hj:j<l.length:=by omega
 rw [dp hj,Option.bind_some]
 exact k _ (List.getElem_mem hj) (by simp [hj])
theorem cR.imp {α:Type} {x:Option α} {P Q:α→Prop} (h:cR x P) (k:∀ a,P a→Q a):cR x Q:=by obtain ⟨a,h1,h2⟩:=h; exact ⟨a,h1,k a h2⟩
theorem Tp.mk' {t:aP} (h:Tp t):Tp (aP.mk t.L t.At):=h
theorem jw {t:aP} (h:Tp t) (n:Int) (hn:n≤1000000000):cR (jg t n) fun r=>Tp r.2∧0≤r.1∧(1≤n→r.1<n)∧(n<1→r.1=0):=by
 obtain ⟨x,t',h1,h2,h3,h4,h5⟩:=tl h n hn; exact ⟨_,h1,h2,h3,h4,h5⟩
theorem iV {t:aP} (h:Tp t) (a b:Int) (ha:-1000≤a) (mj:a≤b) (hb:b≤100000000):cR (kU t a b) fun r=>Tp r.2∧a≤r.1∧r.1≤b:=by
 obtain ⟨x,t',h1,h2,h3,h4⟩:=rZ h a b ha mj hb; exact ⟨_,h1,h2,h3,h4⟩
theorem Iv {t:aP} (h:Tp t) (n:Int) (hn:n≤1000000000):cR (oz t n) fun r=>Tp r.2:=by
 obtain ⟨x,t',h1,h2⟩:=JN h n hn; exact ⟨_,h1,h2⟩
theorem Ck {t:aP} (h:Tp t) (l:List Int) (hl:1≤l.length) (B5:l.length≤1000):cR (uw t l) fun r=>Tp r.2∧r.1 ∈ l:=by
 obtain ⟨x,t',h1,h2,h3⟩:=Gm h l hl B5; exact ⟨_,h1,h2,h3⟩
theorem Hk {t:aP} (h:Tp t):cR (sj t) fun r=>Tp r.2:=by
 obtain ⟨x,t',h1,h2⟩:=Hl h; exact ⟨_,h1,h2⟩
theorem Mz {t:aP} (h:Tp t) (n:Int) (hn:n≤1000000):cR (CI t n) fun r=>Tp r.2:=by
 obtain ⟨x,t',h1,h2⟩:=Hf h n hn; exact ⟨_,h1,h2⟩
theorem L7 {L:List Int} {A n:Int} (h:Tp (aP.mk L A)) (hn:n≤1000000):cR (if decide (n > 0)=true then (oz (aP.mk L A) n).bind fun r=>some (r.1,r.2.L,r.2.At) else some (false,L,A)) fun w=>Tp (aP.mk w.2.1 w.2.2)∧(n≤0→w.1=false):=by
 refine cR.ite (fun hc=>?_) fun hc=>cR.pure ⟨h,fun _=>rfl⟩
 simp only [decide_eq_true_eq] at hc
 exact (Iv h n (by omega)).bind fun r hr=>cR.pure ⟨hr,fun h0=>by omega⟩
theorem JP {t:aP} (h:Tp t) (n:Int) (hn:n≤1000000):cR (CG t n) fun r=>Tp r.2:=by
 unfold CG
 refine (iV h 1 12 (by omega) (by omega) (by omega)).bind fun r1 h1=>?_
 refine (jw h1.1 4 (by omega)).bind fun r2 h2=>?_
 refine (jw h2.1 3 (by omega)).bind fun r3 h3=>?_
 refine (jw h3.1 3 (by omega)).bind fun r4 h4=>?_
 have key:∀ (L:List Int) (A a b c d:Int),Tp (aP.mk L A)→cR (CH n r2 r3 L A a b c d) fun r=>Tp r.2:=fun L A a b c d hL=>by
  unfold CH
  refine (L7 hL hn).bind fun w hw=>?_
  refine cR.ite (fun _=>?_) fun _=>cR.pure hw.1
  refine (jw hw.1 6 (by omega)).bind fun r5 h5=>?_
  refine cR.ite (fun _=>(iV h5.1 (-1) 3 (by omega) (by omega) (by omega)).bind fun r hr=>cR.pure hr.1) fun _=>?_
  refine cR.ite (fun _=>(Ck h5.1 [0,40,41,(-1)] (by simp) (by simp)).bind fun r hr=>cR.pure hr.1) fun _=>?_
  refine cR.ite (fun _=>(Hk h5.1).bind fun r hr=>cR.pure hr) fun _=>?_
  refine cR.ite (fun _=>(Hk h5.1).bind fun r hr=>cR.pure hr) fun _=>?_
  refine cR.ite (fun _=>(iV h5.1 (-1) 6 (by omega) (by omega) (by omega)).bind fun r hr=>cR.pure hr.1) fun _=>?_
  exact (iV h5.1 (-1) 5 (by omega) (by omega) (by omega)).bind fun r hr=>cR.pure hr.1
 refine cR.ite (fun _=>?_) fun _=>key _ _ _ _ _ _ h4.1
 refine (iV h4.1 2 5 (by omega) (by omega) (by omega)).bind fun r5 h5=>?_
 refine (jw h5.1 r5.1 (by omega)).bind fun r6 h6=>?_
 exact (iV h6.1 1 3 (by omega) (by omega) (by omega)).bind fun r7 h7=>key _ _ _ _ _ _ h7.1
theorem G7:∀ (l:List Int),(Bv l).size=l.length:=by
 have key:∀ (l:List Int) (b:ByteArray),(l.foldl (fun r n=>r.push (UInt8.ofNat n.toNat)) b).size=b.size+l.length:=by
  intro l
  induction l with
  | nil=>intro b; simp
  | cons x l ih=>intro b; rw [List.foldl_cons,ih]; simp; omega
 intro l; unfold Bv; rw [key]; simp
theorem cR.wX {β:Type} {a b:ByteArray} {f:ByteArray→Option β} {Q:β→Prop} (h:a.size+b.size≤1000000000) (k:cR (f (a++b)) Q):cR ((Go.L.wX a b).bind f) Q:=by
 unfold Go.L.wX; rw [if_pos h]; exact k
theorem Q5 {F:Nat} {t:aP} (h:Tp t) (hF:20<F):cR (ED F t 3) fun r=>Tp r.2∧r.1.size≤3:=by
 unfold ED
 refine (iV h 1 3 (by omega) (by omega) (by omega)).bind fun r1 h1=>?_
 refine FW (L:=EE) (B:=EF) (fun _=>rfl) (fun b n l a=>(b.size:Int)+n≤3∧0≤n∧Tp (aP.mk l a)) (fun _ n _ _=>n.toNat) (fun r=>Tp r.2∧r.1.size≤3) ?_ F (ByteArray.mk #[]) r1.1 r1.2.L r1.2.At ⟨by show ((0:Nat):Int)+_≤3; omega,by omega,h1.1⟩ (by omega)
 intro rec b n l a hI ih
 obtain ⟨q1,q2,q3⟩:=hI
 unfold EF
 refine cR.ite (fun hc=>?_) fun hc=>cR.pure ⟨q3,by show b.size≤3; omega⟩
 simp only [decide_eq_true_eq] at hc
 refine (jw q3 3 (by omega)).bind fun r hr=>?_
 have hs:(Bv [(IntKind.u8.wrap (i64 (97+r.1)))]).size=1:=G7 _
 refine cR.wX (by rw [hs]; omega) ?_
 rw [cX (n:=n - 1) (by omega) (by omega)]
 exact ih _ _ _ _ ⟨by rw [ByteArray.size_append,hs]; omega,by omega,hr.1⟩ (by omega)
def IY (x:ai):Prop:=x.aH.length≤20∧x.aF.length≤20
theorem IY.sh {F:Nat} {x:ai} (h:IY x) (hF:50<F):Hq F x:=by
 have:=h.1; have:=h.2
 exact ⟨⟨by omega,by omega⟩,by omega,by omega⟩
theorem PG {F:Nat} {t:aP} (h:Tp t) (id v n:Int) (hn:n≤1000000) (hF:50<F):cR (Ex F t id v n) fun r=>Tp r.2∧IY r.1∧(n≤0→r.1.ID=id):=by
 unfold Ex
 refine (Q5 h (by omega)).bind fun r1 h1=>?_
 refine cR.wX (by show 1+_≤_; have:=h1.2; omega) ?_
 generalize (ByteArray.mk #[113])++r1.1=sb
 refine (iV h1.1 1 3 (by omega) (by omega) (by omega)).bind fun r3 h3=>?_
 have second:∀ (parts:List aq) (L:List Int) (A:Int),1≤parts.length→parts.length≤3→Tp (aP.mk L A)→cR (CF id v n sb parts F 0 L A ([]:List Int)) fun r=>Tp r.2∧IY r.1∧(n≤0→r.1.ID=id):=fun parts L A UT Xc hL=>by
  refine FW (L:=CF id v n sb parts) (B:=EA id v n sb parts) (fun _=>rfl) (fun i l a e=>0≤i∧i≤6∧(e.length:Int)≤i∧Tp (aP.mk l a)) (fun i _ _ _=>(6 - i).toNat) (fun r=>Tp r.2∧IY r.1∧(n≤0→r.1.ID=id)) ?_ F 0 L A [] ⟨by omega,by omega,by simp,hL⟩ (by omega)
  intro rec i l a e hI ih
  obtain ⟨q1,q2,q3,q4⟩:=hI
  have hi:i64 (i+1)=i+1:=cX (by omega) (by omega)
  unfold EA
  refine cR.ite (fun hc=>?_) fun hc=>?_
  ·simp only [decide_eq_true_eq] at hc
   have may:cR (if (i != id)=true then (oz (aP.mk l a) 8).bind fun eS=>some (eS.1,eS.2.L,eS.2.At) else some (false,l,a)) fun w=>Tp (aP.mk w.2.1 w.2.2) :=
    cR.ite (fun _=>(Iv q4 8 (by omega)).bind fun r hr=>cR.pure hr) fun _=>cR.pure q4
   refine may.bind fun w hw=>?_
   rw [hi]
   refine cR.ite (fun _=>?_) fun _=>ih _ _ _ _ ⟨by omega,by omega,by omega,hw⟩ (by omega)
   exact cR.app (by simp; omega) (ih _ _ _ _ ⟨by omega,by omega,by simp; omega,hw⟩ (by omega))
  ·have hb:IY ⟨id,v,sb,parts,e⟩:=⟨by show parts.length≤20; omega,by show e.length≤20; omega⟩
   refine (L7 q4 hn).bind fun w hw=>?_
   refine cR.ite (fun hm=>?_) fun _=>cR.pure ⟨hw.1,hb,fun _=>rfl⟩
   have kF:¬ n≤0:=fun h0=>by rw [hw.2 h0] at hm; cases hm
   refine (jw hw.1 7 (by omega)).bind fun r5 h5=>?_
   refine cR.ite (fun _=>(Hk h5.1).bind fun r hr=>cR.pure ⟨hr,hb,fun h0=>absurd h0 kF⟩) fun _=>?_
   refine cR.ite (fun _=>(Ck h5.1 [0,8,9,(-1)] (by simp) (by simp)).bind fun r hr=>cR.pure ⟨hr.1,hb,fun h0=>absurd h0 kF⟩) fun _=>?_
   refine cR.ite (fun _=>(jw h5.1 3 (by omega)).bind fun r hr=>?_) fun _=>?_
   ·exact cR.idx hr.2.1 (by simpa using hr.2.2.1 (by omega)) fun x _ _=>cR.pure ⟨hr.1,hb,fun h0=>absurd h0 kF⟩
   refine cR.ite (fun _=>cR.pure ⟨h5.1,⟨by simp,hb.2⟩,fun h0=>absurd h0 kF⟩) fun _=>?_
   refine cR.ite (fun _=>(JP h5.1 1 (by omega)).bind fun r hr=>cR.app (by simp; omega) (cR.pure ⟨hr,⟨by simp; omega,hb.2⟩,fun h0=>absurd h0 kF⟩)) fun _=>?_
   refine cR.ite (fun _=>(Ck h5.1 [0,id,(-1),10000,3] (by simp) (by simp)).bind fun r hr=>cR.app (by simp; omega) (cR.pure ⟨hr.1,⟨hb.1,by simp; omega⟩,fun h0=>absurd h0 kF⟩)) fun _=>?_
   refine cR.idx (by omega) (by omega) fun x1 _ _=>?_
   refine cR.idx (by omega) (by omega) fun x2 _ _=>?_
   refine cR.idx (by omega) (by omega) fun x3 _ _=>?_
   refine cR.idx (by omega) (by omega) fun x4 _ _=>?_
   refine cR.idx (by omega) (by omega) fun x5 _ _=>?_
   refine cR.idx (by omega) (by omega) fun x6 _ _=>?_
   exact cR.app (by simp; omega) (cR.pure ⟨h5.1,⟨by simp; omega,hb.2⟩,fun h0=>absurd h0 kF⟩)
 refine FW (L:=Ey F id v n sb) (B:=Ez F id v n sb) (fun _=>rfl) (fun k l a p=>0≤k∧(p.length:Int)+k≤3∧1≤(p.length:Int)+k∧Tp (aP.mk l a)) (fun k _ _ _=>k.toNat) (fun r=>Tp r.2∧IY r.1∧(n≤0→r.1.ID=id)) ?_ F r3.1 r3.2.L r3.2.At [] ⟨by omega,by simp; omega,by simp; omega,h3.1⟩ (by omega)
 intro rec k l a p hI ih
 obtain ⟨q1,q2,q3,q4⟩:=hI
 unfold Ez
 refine cR.ite (fun hc=>?_) fun hc=>second p l a (by simp at hc; omega) (by omega) q4
 simp only [decide_eq_true_eq] at hc
 refine (JP q4 0 (by omega)).bind fun r hr=>?_
 rw [cX (n:=k - 1) (by omega) (by omega)]
 exact cR.app (by simp; omega) (ih _ _ _ _ ⟨by omega,by simp; omega,by simp; omega,hr⟩ (by omega))
def Vo (n:Int) (e:ax):Prop:=IY e.Item∧(n≤0→0≤e.Item.ID∧e.Item.ID<5)
def rn (n:Int) (l:List ax):Prop:=∀ e ∈ l,Vo n e
theorem rn.short {F:Nat} {n:Int} {l:List ax} (h:rn n l) (hF:50<F):qL F l:=fun e he=>(h e he).1.sh hF
section
variable {aK:Int→List Int→Int→List Int→List ax→Option (List ax × aP)} {n3:Int} {l7:List ax} {jh:List ax × aP→Prop} {n:Int}
def Aj (aK:Int→List Int→Int→List Int→List ax→Option (List ax × aP)) (n3:Int) (l7:List ax) (n:Int) (jh:List ax × aP→Prop):Prop :=
 ∀ (t:aP) (vs:List Int) (l:List ax),Tp t→vs.length=5→l.length≤l7.length+2→rn n l→cR (aK (i64 (n3 - 1)) t.L t.At vs l) jh
theorem CT (hl:l7.length≤1000) (hc:rn n l7) (h:Aj aK n3 l7 n jh) {n18 n25 n27 n28 n29 n30 n31 n32 n33 A:Int} {sb:ByteArray} {ps:List aq} {es vs L:List Int} (hv:vs.length=5) (rC:ps.length≤20) (C5:es.length≤20) (bB:n≤0→0≤n18∧n18<5) (ht:Tp (aP.mk L A)) :
  cR (Hp aK n3 l7 n18 sb ps es n25 vs n27 n28 n29 n30 n31 n32 n33 L A) jh:=by
 unfold Hp
 refine cR.app (by simp; omega) ?_
 have xi:rn n (l7++[ax.mk (aL.mk n27 n28 n29) n30 (ai.mk n18 n31 sb ps es) (bR.mk n32 n33) n25]):=fun x hx=>by
  rcases List.mem_append.1 hx with hx | hx
  ·exact hc x hx
  ·simp only [List.mem_singleton] at hx; subst hx; exact ⟨⟨rC,C5⟩,bB⟩
 have iN:(l7++[ax.mk (aL.mk n27 n28 n29) n30 (ai.mk n18 n31 sb ps es) (bR.mk n32 n33) n25]).length=l7.length+1:=by simp
 generalize l7++[ax.mk (aL.mk n27 n28 n29) n30 (ai.mk n18 n31 sb ps es) (bR.mk n32 n33) n25]=v at xi iN
 refine (Iv ht 8 (by omega)).bind fun r hr=>?_
 refine cR.ite (fun _=>?_) fun _=>h _ _ _ hr hv (by omega) xi
 refine (jw hr (v.length:Int) (by omega)).bind fun r2 h2=>?_
 refine cR.idx h2.2.1 (h2.2.2.1 (by omega)) fun x hx _=>?_
 refine cR.app (by simp; omega) (h _ _ _ h2.1 hv (by simp; omega) fun y hy=>?_)
 rcases List.mem_append.1 hy with hy | hy
 ·exact xi y hy
 ·simp only [List.mem_singleton] at hy; subst hy; exact xi _ hx
theorem Ns (hn:n≤1000000) (hl:l7.length≤1000) (hc:rn n l7) (h:Aj aK n3 l7 n jh) {dG cm:Int × aP} {n16 n17 n18 n19 n23 n24 n25:Int} {sb:ByteArray} {ps:List aq} {es vs L:List Int} (hv:vs.length=5) (rC:ps.length≤20) (C5:es.length≤20) (bB:n≤0→0≤n18∧n18<5) (ht:Tp (aP.mk L n16)) :
  cR (MK aK n n3 l7 dG cm L n16 n17 n18 n19 sb ps es n23 n24 n25 vs) jh:=by
 unfold MK
 refine (L7 ht hn).bind fun w hw=>?_
 refine cR.ite (fun _=>?_) fun _=>CT hl hc h hv rC C5 bB hw.1
 refine (jw hw.1 5 (by omega)).bind fun r5 h5=>?_
 refine cR.ite (fun _=>(iV h5.1 (-1) 8 (by omega) (by omega) (by omega)).bind fun r hr=>CT hl hc h hv rC C5 bB hr.1) fun _=>?_
 refine cR.ite (fun _=>(iV h5.1 (-1) 3 (by omega) (by omega) (by omega)).bind fun r hr=>CT hl hc h hv rC C5 bB hr.1) fun _=>?_
 refine cR.ite (fun _=>(jw h5.1 7 (by omega)).bind fun r hr=>CT hl hc h hv rC C5 bB hr.1) fun _=>?_
 refine cR.ite (fun _=>(Mz h5.1 3 (by omega)).bind fun r hr=>CT hl hc h hv rC C5 bB hr) fun _=>?_
 exact (iV h5.1 0 3 (by omega) (by omega) (by omega)).bind fun r hr=>CT hl hc h hv rC C5 bB hr.1
end
theorem pz {F:Nat} {t:aP} (h:Tp t) (iE:Nat) (n:Int) (hm:iE≤300) (hn:n≤1000000) (hF:400<F):∃ l t',Kq F t iE n=some (l,t')∧Tp t'∧l.length≤2 * iE∧rn n l:=by
 have key:cR (Kq F t iE n) fun r=>Tp r.2∧r.1.length≤2 * iE∧rn n r.1:=by
  unfold Kq
  rw [show (5:Int)=((5:Nat):Int) from rfl,qw (by omega),Option.bind_some]
  refine (iV h 0 iE (by omega) (by omega) (by omega)).bind fun r2 h2=>?_
  refine PL (L:=Ev F n) (B:=Ew F n) (fun _=>rfl) (fun k l a vs MM=>0≤k∧(MM.length:Int)+2 * k≤2 * iE∧vs.length=5∧rn n MM∧Tp (aP.mk l a)) (fun k _ _ _ _=>k.toNat) (fun r=>Tp r.2∧r.1.length≤2 * iE∧rn n r.1) ?_ F r2.1 r2.2.L r2.2.At (List.replicate 5 0) [] ⟨by omega,by simp; omega,by simp,fun e he=>by simp at he,h2.1⟩ (by omega)
  intro rec k l a vs MM hI ih
  obtain ⟨q1,q2,q3,q4,q5⟩:=hI
  unfold Ew
  refine cR.ite (fun hc=>?_) fun hc=>cR.pure ⟨q5,by show MM.length≤_; omega,q4⟩
  simp only [decide_eq_true_eq] at hc
  have oo:Aj rec k MM n fun r=>Tp r.2∧r.1.length≤2 * iE∧rn n r.1:=fun t' fI l' a1 a2 a3 a4=>by
   rw [cX (n:=k - 1) (by omega) (by omega)]
   exact ih _ _ _ _ _ ⟨by omega,by omega,a2,a4,a1⟩ (by omega)
  refine (jw q5 5 (by omega)).bind fun r9 h9=>?_
  have b9:=h9.2.2.1 (by omega)
  refine (jw h9.1 2 (by omega)).bind fun dG Nw=>?_
  refine (jw Nw.1 2 (by omega)).bind fun cm Vw=>?_
  refine (Ck Vw.1 [3,4,4,2,5,6] (by simp) (by simp)).bind fun dD MN=>?_
  refine cR.idx h9.2.1 (by omega) fun fg _ _=>?_
  refine (jw MN.1 4 (by omega)).bind fun e7 Us=>?_
  have hw:cR ((idx vs r9.1).bind fun Q6=>if (Q6 == 0)=true then some true else some (dD.1 == 2)) fun _=>True :=
   cR.idx h9.2.1 (by omega) fun x _ _=>cR.ite (fun _=>cR.pure trivial) fun _=>cR.pure trivial
  have j4:∀ k4:Int,cR (ML rec F n k vs MM r9 dG cm e7 k4) fun r=>Tp r.2∧r.1.length≤2 * iE∧rn n r.1:=fun k4=>by
   unfold ML
   refine cR.idx h9.2.1 (by omega) fun HG _ _=>?_
   refine cR.idx h9.2.1 (by omega) fun Vm _ _=>?_
   refine cR.idx h9.2.1 (by simp; omega) fun Q7 _ _=>?_
   refine (PG Us.1 r9.1 Q7 n hn (by omega)).bind fun rJ Ri=>?_
   exact Ns hn (by omega) q4 oo (by simp [q3]) Ri.2.1.1 Ri.2.1.2 (fun h0=>by rw [Ri.2.2 h0]; omega) Ri.1
  refine hw.bind fun w _=>cR.ite (fun _=>?_) fun _=>?_
  ·refine cR.idx h9.2.1 (by omega) fun Q8 _ _=>?_
   exact cR.ite (fun _=>j4 _) fun _=>j4 _
  ·exact Ns hn (by omega) q4 oo q3 (by simp) (by simp) (fun _=>by omega) Us.1
 obtain ⟨⟨l,t'⟩,h1,h2⟩:=key
 exact ⟨l,t',h1,h2⟩
end Go.Sh
namespace Go.Sh
open Go.L
theorem wT (p:aq):yG p=some (rF p):=by
 unfold yG rF
 cases (decide (p.Max<1) || (decide (p.Max > 40) || (decide (p.e9<0) || (decide (p.e9 ≥ 16) || (decide (p.cr<0) || decide (p.cr ≥ 6)))))) with
 | true=>simp
 | false =>
  by_cases h1:p.Kind=1
  ·simp only [h1,Bool.false_eq_true,if_false,if_true,beq_self_eq_true,Bool.not_false,Bool.true_and,xy]
  ·have:(p.Kind == 1)=false:=by simp [h1]
   simp only [h1,this,Bool.false_eq_true,if_false,Bool.not_false,Bool.true_and,xy]
theorem Gn (s:ByteArray):Dx s=allI (fun _ (b:UInt8)=>!(decide ((b.toNat:Int)<32) || decide ((b.toNat:Int) > 126))) 0 s.data.toList:=by
 unfold Dx; rw [py]
theorem Gb (id:Int) (l:List Int):tr id l=allI (fun i x=>!(uS id l i x)) 0 l:=by
 unfold tr allI
 congr 1
 funext i x
 cases hb:uS id l i x <;> simp [hb]
theorem tN {F:Nat} {x:ai} (hF:50<F):tK F x=some (jk x):=by
 unfold tK jk
 have e1:(decide (x.ID<0) || (decide (x.ID > 9999) || (decide (x.Version<1) || decide (x.Version > 8))))=(!(decide (x.ID ≥ 0) && decide (x.ID≤9999)) || (decide (x.Version<1) || decide (x.Version > 8))):=by
  refine I2 ?_
  simp only [Bool.or_eq_true,decide_eq_true_eq,Bool.not_eq_true',Bool.and_eq_false_iff,decide_eq_false_iff_not]
  omega
 rw [e1]
 cases h1:(!(decide (x.ID ≥ 0) && decide (x.ID≤9999)) || (decide (x.Version<1) || decide (x.Version > 8))) with
 | true=>simp
 | false =>
  simp only [Bool.false_eq_true,if_false]
  cases h2:(decide ((x.bJ.size:Int) > 40) || (decide ((x.aH.length:Int) > 6) || decide ((x.aF.length:Int) > 8))) with
  | true=>simp
  | false =>
   simp only [Bool.or_eq_false_iff,decide_eq_false_iff_not] at h2
   simp only [Bool.false_eq_true,if_false]
   by_cases h0:x.bJ=ByteArray.mk #[]
   ·simp [h0]
   ·simp only [h0,decide_false,Bool.false_eq_true,if_false,Bool.false_or]
    have eH:(x.bJ.size:Int)=(x.bJ.data.toList.length:Int):=by
     show ((x.bJ.data.size:Nat):Int)=_
     rw [Array.length_toList]
    have hl:x.bJ.data.toList.length=x.bJ.size:=Array.length_toList
    have l3:za x F 0=some (if tr x.ID x.aF=true then 0 else 9):=by
     rw [Gb,kb (a:=x.aF) (L:=za x) (fun i y=>if (!(uS x.ID x.aF i y))=true then .none else some 9) (some 0) (by omega) (fun n i y hy hi=>?_) (fun n=>?_) (by omega),ku]
     ·split <;> rfl
     ·simp only [za,yw,jT hy,if_true,jr hy,Option.bind_some,jJ hi]
      unfold uS
      have e2:(!(decide (y ≥ 0) && decide (y≤9999)))=(decide (y<0) || decide (y > 9999)):=by
       refine I2 ?_
       simp only [Bool.or_eq_true,decide_eq_true_eq,Bool.not_eq_true',Bool.and_eq_false_iff,decide_eq_false_iff_not]
       omega
      rw [e2]
      by_cases h0:0<i
      ·have d:decide ((i:Int) > 0)=true:=by simp; exact h0
       simp only [d,if_true,JQ hi hy h0,Option.bind_some,wV,h0,decide_true,Bool.true_and,xy,Bool.or_assoc]
       cases (decide (y<0) || (decide (y > 9999) || (decide (y=x.ID) || decide (x.aF.getD (i - 1) 0 ≥ y)))) <;> simp
      ·have d:decide ((i:Int) > 0)=false:=by simp; omega
       simp only [d,Bool.false_eq_true,if_false,Option.bind_some,wV,h0,decide_false,Bool.false_and,xy,Bool.or_assoc]
       cases (decide (y<0) || (decide (y > 9999) || (decide (y=x.ID) || false))) <;> simp
     ·simp only [za,yw,jE,Bool.false_eq_true,if_false]
    have l2:y9 F x F 0=some (if x.aH.all rF=true then (if tr x.ID x.aF=true then 0 else 9) else 1):=by
     rw [kb (a:=x.aH) (L:=y9 F x) (fun _ y=>if rF y=true then .none else some 1) (some (if tr x.ID x.aF=true then 0 else 9)) (by omega) (fun n i y hy hi=>?_) (fun n=>?_) (by omega),ku (fun _ y=>rF y),py]
     ·split <;> rfl
     ·simp only [y9,yv,jT hy,if_true,jr hy,Option.bind_some,jJ hi,wT]
      cases rF y <;> simp
     ·simp only [y9,yv,jE,Bool.false_eq_true,if_false,l3]
    rw [Gn,kb (a:=x.bJ.data.toList) (L:=Bo F x) (fun _ (b:UInt8)=>if (!(decide ((b.toNat:Int)<32) || decide ((b.toNat:Int) > 126)))=true then .none else some 7) (some (if x.aH=[] then 10 else if x.aH.all rF=true then (if tr x.ID x.aF=true then 0 else 9) else 1)) (by omega) (fun n i y hy hi=>?_) (fun n=>?_) (by omega),ku (fun _ (b:UInt8)=>!(decide ((b.toNat:Int)<32) || decide ((b.toNat:Int) > 126)))]
    ·cases allI (fun _ (b:UInt8)=>!(decide ((b.toNat:Int)<32) || decide ((b.toNat:Int) > 126))) 0 x.bJ.data.toList <;> simp
    ·simp only [Bo,yu,eH,jT hy,if_true,Kd hy,Option.bind_some,jJ hi,wV]
     cases (decide ((y.toNat:Int)<32) || decide ((y.toNat:Int) > 126)) <;> simp
    ·simp only [Bo,yu,eH,jE,Bool.false_eq_true,if_false,l2]
     by_cases h3:x.aH=[]
     ·simp [h3]
     ·have h4:((x.aH.length:Int) == 0)=false:=by
       rw [beq_eq_false_iff_ne]; intro h; exact h3 (List.eq_nil_of_length_eq_zero (by omega))
      simp only [h3,h4,Bool.false_eq_true,if_false]
theorem G3 {F:Nat} {l:List ak} (hF:400<F):yX F ⟨l⟩=some (jb l):=by
  unfold yX jb
  by_cases h:l.length≤40
  · have d:decide ((l.length:Int) > 40)=false:=by simp; omega
    simp only [d,Bool.false_eq_true,if_false,h,decide_true,Bool.true_and]
    refine gn _ _ (by omega) (fun n i x hx hi=>?_) (fun n=>?_) (by omega)
    · have next:∀ (hh:(decide ((x.ab.length:Int)<1) || (decide ((x.ab.length:Int) > 8) || (((x.ah.length:Int) != (x.ab.length:Int)) || decide ((x.Uses.length:Int) > 300))))=false),
          zb (Cy F ⟨l⟩ n) F (i:Int) x F 0=if p4 x=true then Cy F ⟨l⟩ n ((i+1:Nat):Int) else some false:=fun hh=>by
        simp only [Bool.or_eq_false_iff,decide_eq_false_iff_not] at hh
        have l3:zd (Cy F ⟨l⟩ n) (i:Int) x F 0=if x.Uses.all (qI x)=true then Cy F ⟨l⟩ n ((i+1:Nat):Int) else some false:=by
          rw [kb (a:=x.Uses) (L:=zd (Cy F ⟨l⟩ n) (i:Int) x) (fun _ y=>if qI x y=true then .none else some false) (Cy F ⟨l⟩ n ((i+1:Nat):Int)) (by omega) (fun n' i' y hy gx=>?_) (fun n'=>?_) (by omega),ku (fun _ y=>qI x y),py]
          · simp only [zd,yz,jT hy,if_true,jr hy,Option.bind_some,jJ gx,wV]
            have e:qI x y=!(decide (y.Version<1) || decide (y.Version > (x.ab.length:Int))):=by
              unfold qI
              refine I2 ?_
              simp only [Bool.and_eq_true,decide_eq_true_eq,Bool.not_eq_true',Bool.or_eq_false_iff,decide_eq_false_iff_not]
              omega
            rw [e]
            cases (decide (y.Version<1) || decide (y.Version > (x.ab.length:Int))) <;> simp
          · simp only [zd,yz,jE,Bool.false_eq_true,if_false,jJ hi]
        rw [kb (a:=x.ab) (L:=zb (Cy F ⟨l⟩ n) F (i:Int) x) (fun i' y=>if xh x i' y=true then .none else some false) (if x.Uses.all (qI x)=true then Cy F ⟨l⟩ n ((i+1:Nat):Int) else some false) (by omega) (fun n' i' y hy gx=>?_) (fun n'=>?_) (by omega),ku]
        · have er:p4 x=(allI (xh x) 0 x.ab && x.Uses.all (qI x)):=by
            unfold p4
            rw [zk]
            have:(decide ((x.ab.length:Int)<1) || (decide ((x.ab.length:Int) > 8) || (((x.ah.length:Int) != (x.ab.length:Int)) || decide ((x.Uses.length:Int) > 300))))=false:=by
              simp only [Bool.or_eq_false_iff,decide_eq_false_iff_not]; exact hh
            rw [this]; simp
          rw [er]
          cases allI (xh x) 0 x.ab <;> cases x.Uses.all (qI x) <;> simp
        · have hw:i64 ((i':Int)+1)=(i':Int)+1:=by have:=(List.getElem?_eq_some_iff.1 hy).1; rw [cX (by omega) (by omega)]
          have SG:i64 ((i':Int)+1)=((i'+1:Nat):Int):=jJ gx
          simp only [zb,yy,jT hy,if_true,jr hy,Option.bind_some,tN (show 50<F by omega),wV]
          have e:xh x i' y=!((jk y != 0) || (y.ID != x.ID || y.Version != (i':Int)+1)):=by
            unfold xh
            refine I2 ?_
            simp only [Bool.and_eq_true,decide_eq_true_eq,Bool.not_eq_true',Bool.or_eq_false_iff,bne_eq_false_iff_eq]
          rw [e,SG]
          rw [show (((i'+1:Nat):Int))=(i':Int)+1 from rfl]
          cases ((jk y != 0) || (y.ID != x.ID || y.Version != (i':Int)+1)) <;> simp
        · simp only [zb,yy,jE,Bool.false_eq_true,if_false,l3]
      simp only [Cy,yx,jT hx,if_true,jr hx,Option.bind_some,wV]
      unfold IC
      have NT:(!(decide ((x.ab.length:Int)<1) || (decide ((x.ab.length:Int) > 8) || (((x.ah.length:Int) != (x.ab.length:Int)) || decide ((x.Uses.length:Int) > 300)))))=false→p4 x=false:=fun hh=>by
        unfold p4; rw [hh]; rfl
      generalize hH:(decide ((x.ab.length:Int)<1) || (decide ((x.ab.length:Int) > 8) || (((x.ah.length:Int) != (x.ab.length:Int)) || decide ((x.Uses.length:Int) > 300))))=H at next NT
      by_cases h0:0<i
      · have d:decide ((i:Int) > 0)=true:=by simp; exact h0
        simp only [d,if_true,JR hi hx h0,Option.bind_some,wV,h0,decide_true,Bool.true_and]
        cases hb:decide ((l.getD (i - 1) default).ID ≥ x.ID) with
        | true=>simp
        | false =>
          cases Nz:H with
          | true=>rw [Nz] at NT; rw [NT rfl]; simp
          | false=>rw [Nz] at next; simp only [Bool.or_self,Bool.false_eq_true,if_false,Bool.not_false,Bool.true_and]; rw [next rfl]; cases p4 x <;> simp
      · have d:decide ((i:Int) > 0)=false:=by simp; omega
        simp only [d,Bool.false_eq_true,if_false,Option.bind_some,h0,decide_false,Bool.false_and,Bool.not_false,Bool.true_and,wV,hH]
        cases Nz:H with
        | true=>rw [Nz] at NT; rw [NT rfl]; simp
        | false=>rw [Nz] at next; simp only [Bool.false_eq_true,if_false]; rw [next rfl]; cases p4 x <;> simp
    · simp only [Cy,yx,jE,Bool.false_eq_true,if_false]
  · have d:decide ((l.length:Int) > 40)=true:=by simp; omega
    simp [d,h]
theorem pT {F:Nat} {l:List ak} {c:Int} (hb:l.length<1000000) (hF:l.length<F):wI F ⟨l⟩ c=some (match cG l c with | some k=>(k:Int) | .none=>-1):=by
 unfold wI
 have e:∀ (s:List ak) (i:Nat),scan (fun i (x:ak)=>if decide (x.ID=c)=true then some (i:Int) else .none) (-1) i s=(match (cG s c).map (·+i) with | some k=>(k:Int) | .none=>-1):=by
  intro s
  induction s with
  | nil=>intro i; rfl
  | cons x s ih =>
   intro i
   unfold scan cG
   rw [List.findIdx?_cons]
   by_cases hc:x.ID=c
   ·simp [hc]
   ·have:(x.ID == c)=false:=by simp [hc]
    simp only [hc,decide_false,Bool.false_eq_true,if_false,this]
    rw [ih (i+1)]
    unfold cG
    cases List.findIdx? (fun b=>b.ID == c) s with
    | none=>rfl
    | some k=>simp only [Option.map_some]; congr 1; omega
 have e0:=e l 0
 have:(cG l c).map (·+0)=cG l c:=by cases cG l c <;> rfl
 rw [this] at e0
 rw [← e0]
 refine gn _ _ hb (fun n i x hx hi=>?_) (fun n=>?_) hF
 ·simp only [DR,yA,jT hx,if_true,jr hx,Option.bind_some,jJ hi,xy]
  by_cases hc:x.ID=c <;> simp [hc]
 ·simp only [DR,yA,jE,Bool.false_eq_true,if_false]
def kA (l:List ak) (r:ak):List ak:=l.take (jS l r.ID)++[r]++(l.drop (jS l r.ID)).filter fun x=>decide (x.ID ≠ r.ID)
theorem Hm {F:Nat} {l:List ak} {r:ak} (hs:ji l) (hb:l.length<1000000) (hF:l.length<F):uI F ⟨l⟩ r=some ⟨kA l r⟩:=by
 unfold uI
 have key : ∀ (s p : List ak) (n : Nat) (out : List ak) (b : Bool), l = p ++ s → s.length < n → (out.length ≤ p.length + 1 ∧ (b = false → out.length ≤ p.length)) → (b = false → ∀ x ∈ p, x.ID < r.ID) → (b = true → ∀ x ∈ s, r.ID ≤ x.ID) →
   ze ⟨l⟩ r n b (p.length:Int) out=some ⟨if b=true then out++s.filter (fun x=>decide (x.ID ≠ r.ID)) else out++kA s r⟩:=by
  intro s
  induction s with
  | nil=>intro p n out b hp hn ho h1 h2; cases n with
   | zero=>omega
   | succ n =>
    have:l=p:=by simpa using hp
    subst this
    simp only [ze,yI,Int.lt_irrefl,decide_false,Bool.false_eq_true,if_false]
    cases b with
    | true=>simp
    | false =>
     simp only [Bool.not_false,if_true,Bool.false_eq_true,if_false]
     rw [c9 (by simp; omega)]
     simp [kA,jS]
  | cons x s ih=>intro p n out b hp hn ho h1 h2; cases n with
   | zero=>omega
   | succ n =>
    have hlen:p.length<1000000:=by rw [hp] at hb; simp at hb; omega
    have d1:decide ((p.length:Int)<(l.length:Int))=true:=by rw [hp]; exact HL p x s
    have i1:idx l (p.length:Int)=some x:=by rw [hp]; exact jH p x s
    have UY:∀ y ∈ s,x.ID<y.ID:=fun y hy=>by
     have:=hs; unfold ji at this; rw [hp,List.pairwise_append,List.pairwise_cons] at this
     exact this.2.1.1 y hy
    have fin : ∀ (b' : Bool) (o6 : List ak), (o6.length ≤ p.length + 1 ∧ (b' = false → o6.length ≤ p.length)) → (b' = false → o6 = out ∧ x.ID < r.ID) → (b' = true → r.ID ≤ x.ID ∧ ((b = true ∧ o6 = out) ∨ (b = false ∧ o6 = out ++ [r]))) →
      vv (ze ⟨l⟩ r n) ⟨l⟩ r (p.length:Int) b' o6=some ⟨if b=true then out++(x :: s).filter (fun x=>decide (x.ID ≠ r.ID)) else out++kA (x :: s) r⟩:=fun b' o6 iN c1 c2=>by
     unfold vv
     simp only [i1,Option.bind_some]
     rw [L8 p x (by omega)]
     have e3:∀ q,(if b'=true then (o6++q)++s.filter (fun x=>decide (x.ID ≠ r.ID)) else (o6++q)++kA s r)=(if b'=true then o6++(q++s.filter (fun x=>decide (x.ID ≠ r.ID))) else o6++(q++kA s r)):=fun q=>by
      cases b' <;> simp
     have mR:∀ q,q=(if x.ID ≠ r.ID then [x] else [])→(if b'=true then o6++(q++s.filter (fun x=>decide (x.ID ≠ r.ID))) else o6++(q++kA s r))=(if b=true then out++(x :: s).filter (fun x=>decide (x.ID ≠ r.ID)) else out++kA (x :: s) r):=fun q hq=>by
      cases b' with
      | false =>
       obtain ⟨e1,e2⟩:=c1 rfl
       subst e1
       have hb:b=false:=by
        cases b with
        | false=>rfl
        | true=>have:=h2 rfl x (by simp); omega
       subst hb
       have eA:x.ID ≠ r.ID:=by omega
       rw [hq,if_pos eA]
       simp only [Bool.false_eq_true,if_false]
       unfold kA jS
       rw [List.takeWhile_cons_of_pos (by simpa using e2)]
       simp
      | true =>
       obtain ⟨e1,e2⟩:=c2 rfl
       have NN:(x :: s).filter (fun x=>decide (x.ID ≠ r.ID))=q++s.filter (fun x=>decide (x.ID ≠ r.ID)):=by
        rw [hq,List.filter_cons]
        by_cases hx:x.ID=r.ID <;> simp [hx]
       rcases e2 with ⟨hb,rB⟩ | ⟨hb,rB⟩
       ·subst hb; subst rB; simp only [if_true]; rw [NN]
       ·subst hb; subst rB
        simp only [if_true,Bool.false_eq_true,if_false]
        have:kA (x :: s) r=[r]++(x :: s).filter (fun x=>decide (x.ID ≠ r.ID)):=by
         unfold kA jS
         rw [List.takeWhile_cons_of_neg (by simp; omega)]
         simp
        rw [this,NN]; simp
     by_cases eA:x.ID=r.ID
     ·have HT:(x.ID != r.ID)=false:=by simp [eA]
      simp only [HT,Bool.false_eq_true,if_false]
      have:=ih (p++[x]) n o6 b' (by rw [hp]; simp) (by simpa using hn) ⟨by simp; omega,fun gH=>by have:=iN.2 gH; simp; omega⟩ (fun gH y hy=>by
       rcases List.mem_append.1 hy with hy | hy
       ·refine h1 ?_ y hy
        cases b with
        | false=>rfl
        | true=>have:=h2 rfl x (by simp); have:=(c1 gH).2; omega
       ·rw [List.mem_singleton] at hy; subst hy; exact (c1 gH).2) (fun gH y hy=>by have:=(c2 gH).1; have:=UY y hy; omega)
      rw [this,← mR [] (by simp [eA])]
      simp
     ·have HT:(x.ID != r.ID)=true:=by simp [eA]
      simp only [HT,if_true]
      rw [c9 (by simp; omega),Option.bind_some]
      have:=ih (p++[x]) n (o6++[x]) b' (by rw [hp]; simp) (by simpa using hn) ⟨by simp; omega,fun gH=>by have:=iN.2 gH; simp; omega⟩ (fun gH y hy=>by
       rcases List.mem_append.1 hy with hy | hy
       ·refine h1 ?_ y hy
        cases b with
        | false=>rfl
        | true=>have:=h2 rfl x (by simp); have:=(c1 gH).2; omega
       ·rw [List.mem_singleton] at hy; subst hy; exact (c1 gH).2) (fun gH y hy=>by have:=(c2 gH).1; have:=UY y hy; omega)
      rw [this,e3,mR [x] (by simp [eA])]
    simp only [ze,yI,d1,if_true]
    cases b with
    | true =>
     simp only [Bool.not_true,Bool.false_eq_true,if_false,Option.bind_some]
     exact fin true out ⟨ho.1,fun h=>by cases h⟩ (fun h=>by cases h) (fun _=>⟨h2 rfl x (by simp),.inl ⟨rfl,rfl⟩⟩)
    | false =>
     simp only [Bool.not_false,if_true,i1,Option.bind_some]
     by_cases NQ:x.ID ≥ r.ID
     ·simp only [NQ,decide_true,if_true]
      rw [c9 (by simp; omega),Option.bind_some]
      exact fin true (out++[r]) ⟨by simp; have:=ho.2 rfl; omega,fun h=>by cases h⟩ (fun h=>by cases h) (fun _=>⟨NQ,.inr ⟨rfl,rfl⟩⟩)
     ·simp only [NQ,decide_false,Bool.false_eq_true,if_false]
      exact fin false out ⟨ho.1,fun _=>ho.2 rfl⟩ (fun _=>⟨rfl,by omega⟩) (fun h=>by cases h)
 have:=key l [] F [] false rfl hF (by simp) (by simp) (by simp)
 simpa using this
theorem Eb {l:List ak} (hs:ji l) {k:Nat} (hk:k<l.length) {r:ak} (hp:cG l r.ID=some k):kA l r=l.set k r:=by
 unfold kA
 rw [← tD hs hp]
 obtain ⟨_,bB⟩:=ef hp
 rw [List.drop_eq_getElem_cons hk,List.filter_cons]
 have h1:decide (l[k].ID ≠ r.ID)=false:=by simp [bB]
 have h2:(l.drop (k+1)).filter (fun x=>decide (x.ID ≠ r.ID))=l.drop (k+1):=by
  rw [List.filter_eq_self]
  intro x hx
  obtain ⟨q,hq,rfl⟩:=List.getElem_of_mem hx
  simp only [List.length_drop] at hq
  rw [List.getElem_drop]
  have:=List.pairwise_iff_getElem.1 hs k (k+1+q) hk (by omega) (by omega)
  simp; omega
 rw [h1,h2,List.set_eq_take_append_cons_drop,if_pos hk]
 simp
theorem Ea {l:List ak} {r:ak} (hp:cG l r.ID=.none):kA l r=l.take (jS l r.ID)++[r]++l.drop (jS l r.ID):=by
 unfold kA
 congr 1
 rw [List.filter_eq_self]
 intro x hx
 simpa using qY hp x (List.mem_of_mem_drop hx)
def k7 (c:Int × List ak):aG × Int:=if c.1=0 then (⟨c.2⟩,0) else (⟨[]⟩,c.1)
theorem GX {F:Nat} {l:List ak} {e:ax} (h:iq l) (hF:400<F):yY F ⟨l⟩ e.Item=some (k7 (kg l e)):=by
 have hlen:=h.len
 unfold yY kg
 rw [tN (by omega),pT (by omega) (by omega)]
 simp only [Option.bind_some]
 by_cases h1:jk e.Item=0
 ·simp only [h1,bne_self_eq_false,Bool.false_eq_true,if_false,ne_eq,not_true_eq_false]
  by_cases h2:e.Item.Version=1
  ·simp only [h2,bne_self_eq_false,Bool.false_eq_true,if_false,not_true_eq_false]
   cases hp:cG l e.Item.ID with
   | some k =>
    have d:decide ((k:Int) ≥ 0)=true:=by simp
    simp [d,k7]
   | none =>
    have d:decide ((-1:Int) ≥ 0)=false:=by simp
    simp only [d,Bool.false_eq_true,if_false,Option.isSome_none]
    by_cases h4:40≤l.length
    ·have d:((l.length:Int) == 40)=true:=by rw [beq_iff_eq]; omega
     simp only [d,h4,if_true]; rfl
    ·have d:((l.length:Int) == 40)=false:=by rw [beq_eq_false_iff_ne]; omega
     simp only [d,h4,if_false,Bool.false_eq_true]
     rw [Hm h.sort (by omega) (by omega)]
     simp only [Option.bind_some,k7,if_true]
     rw [Ea hp]; rfl
  ·have d:(e.Item.Version != 1)=true:=by simp [h2]
   simp only [d,h2,if_true,not_false_eq_true]; rfl
 ·have d:(jk e.Item != 0)=true:=by simp [h1]
  simp [d,h1,k7]
theorem nW {F:Nat} {l:List ak} (h:iq l) (hF:400<F) {j:Nat} (hj:j<l.length) {vs:List ai} {ap:List Bool} {us:List ay} {w:Bool} {c:Int} (hc:l[j].ID=c) (hp:cG l c=some j):uI F ⟨l⟩ ⟨l[j].ID,vs,ap,us,w⟩=some ⟨l.set j ⟨l[j].ID,vs,ap,us,w⟩⟩:=by
 rw [Hm h.sort (by have:=h.len; omega) (by have:=h.len; omega),Eb h.sort hj (by show cG l l[j].ID=_; rw [hc]; exact hp)]
theorem DV {F:Nat} {l:List ak} {e:ax} (h:iq l) (hF:400<F) (hk:e.Kind=2):yV F ⟨l⟩ e.Item=some (k7 (cP l e)):=by
 have hlen:=h.len
 unfold yV cP
 rw [tN (by omega),pT (by omega) (by omega)]
 simp only [Option.bind_some,hk,show ¬ ((2:Int)=1) by omega,if_false,if_true]
 by_cases h1:jk e.Item=0
 ·simp only [h1,bne_self_eq_false,Bool.false_eq_true,if_false,ne_eq,not_true_eq_false]
  unfold lA
  simp only [Hd,hk,if_true]
  cases hp:cG l e.Item.ID with
  | none=>rfl
  | some j =>
   obtain ⟨iG,bB⟩:=ef hp
   have hr:=h.ok l[j] (List.getElem_mem iG)
   have d:decide ((j:Int)<0)=false:=by simp
   simp only [d,Bool.false_eq_true,if_false,dp iG,List.getElem?_eq_getElem iG,Option.bind_some,kh,hk,if_true]
   have hw:i64 ((l[j].ab.length:Int)+1)=(l[j].ab.length:Int)+1:=by have:=hr.n8; rw [cX (by omega) (by omega)]
   rw [hw]
   by_cases h2:l[j].ae=true ∨ e.Item.Version ≠ (l[j].ab.length:Int)+1
   ·have d:(l[j].ae || e.Item.Version != (l[j].ab.length:Int)+1)=true:=by simpa using h2
    simp only [d,if_true,h2,show ¬ ((8:Int)=0) by omega,if_false]; rfl
   ·have d:(l[j].ae || e.Item.Version != (l[j].ab.length:Int)+1)=false:=by simpa using h2
    simp only [d,Bool.false_eq_true,if_false,h2]
    have q1:=hr.n8; have q2:=hr.ap
    rw [c9 (by simp; omega),Option.bind_some,c9 (by simp; omega),Option.bind_some,c9 (by simp; omega),Option.bind_some,c9 (by simp; omega),Option.bind_some]
    rw [nW h hF iG bB hp]
    simp [k7]
 ·have d:(jk e.Item != 0)=true:=by simp [h1]
  simp [d,h1,k7]
theorem EH {l:List ak} {e:ax} {j:Nat} (iG:j<l.length):(if decide (((j:Nat):Int)<0)=true then some true else if decide (e.Ref.Version<1)=true then some true else (idx l (j:Int)).bind fun x6=>some (decide (e.Ref.Version > (x6.ab.length:Int))))=some (decide (oE e l[j])):=by
 have d:decide ((j:Int)<0)=false:=by simp
 simp only [d,Bool.false_eq_true,if_false,dp iG,Option.bind_some,wV]
 congr 1
 refine I2 ?_
 rw [decide_eq_true_eq]
 unfold oE
 simp only [Bool.or_eq_true,decide_eq_true_eq]
theorem Bq {F:Nat} {l:List ak} {e:ax} (h:iq l) (hF:400<F) (hk:e.Kind=3):yS F ⟨l⟩ e.Ref=some (k7 (cP l e)):=by
 have hlen:=h.len
 unfold yS cP lA
 rw [pT (by omega) (by omega)]
 simp only [Option.bind_some,hk,Hd,show ¬ ((3:Int)=1) by omega,show ¬ ((3:Int)=2) by omega,if_false,true_or,if_true]
 cases hp:cG l e.Ref.ID with
 | none=>simp [k7]
 | some j =>
  obtain ⟨iG,bB⟩:=ef hp
  have hr:=h.ok l[j] (List.getElem_mem iG)
  simp only [EH iG,Option.bind_some,List.getElem?_eq_getElem iG,kh,hk,show ¬ ((3:Int)=2) by omega,if_false,if_true]
  by_cases hb:oE e l[j]
  ·simp only [hb,decide_true,if_true,show ¬ ((4:Int)=0) by omega,if_false]; rfl
  ·obtain ⟨q1,q2⟩:=BL hr hb
   simp only [hb,decide_false,Bool.false_eq_true,if_false,dp iG,Option.bind_some]
   by_cases hw:l[j].ae=true
   ·simp only [hw,if_true,show ¬ ((8:Int)=0) by omega,if_false]; rfl
   ·simp only [hw,if_false,q1,Option.bind_some,Bool.false_eq_true]
    by_cases ha:rr e l[j]=true
    ·simp only [ha,if_true,show ¬ ((5:Int)=0) by omega,if_false]; rfl
    ·have q3:=hr.n8; have q4:=hr.ap
     simp only [ha,if_false,Bool.false_eq_true]
     rw [c9 (by simp; omega),Option.bind_some,List.nil_append,q1,Option.bind_some,nW h hF iG bB hp,q2]
     simp [k7]
theorem Mw {F:Nat} {l:List ak} {e:ax} (h:iq l) (hF:400<F) (hk:e.Kind=4):lK F ⟨l⟩ e.Ref e.Form e.ar.Time=some (k7 (cP l e)):=by
 have hlen:=h.len
 unfold lK cP lA
 rw [pT (by omega) (by omega)]
 simp only [Option.bind_some,hk,Hd,show ¬ ((4:Int)=1) by omega,show ¬ ((4:Int)=2) by omega,show ¬ ((4:Int)=3) by omega,if_false,true_or,or_true,if_true]
 cases hp:cG l e.Ref.ID with
 | none=>simp [k7]
 | some j =>
  obtain ⟨iG,bB⟩:=ef hp
  have hr:=h.ok l[j] (List.getElem_mem iG)
  simp only [EH iG,Option.bind_some,List.getElem?_eq_getElem iG,kh,hk,show ¬ ((4:Int)=2) by omega,show ¬ ((4:Int)=3) by omega,if_false,if_true]
  by_cases hb:oE e l[j]
  ·simp only [hb,decide_true,if_true,show ¬ ((4:Int)=0) by omega,if_false]; rfl
  ·obtain ⟨q1,q2⟩:=BL hr hb
   have hu:=hr.us
   simp only [hb,decide_false,Bool.false_eq_true,if_false,dp iG,Option.bind_some,q1,wV]
   by_cases hw:l[j].ae=true ∨ rr e l[j]=false
   ·have d:(l[j].ae || !(rr e l[j]))=true:=by simpa using hw
    simp only [d,hw,if_true,show ¬ ((8:Int)=0) by omega,if_false]; rfl
   ·have d:(l[j].ae || !(rr e l[j]))=false:=by simpa using hw
    simp only [d,hw,if_false,Bool.false_eq_true]
    have l1:=kb (a:=l[j].Uses) (L:=tI F ⟨l⟩ e.Ref e.Form e.ar.Time l[j]) (F:=F) (fun _ u=>if (!(u.Form == e.Form))=true then .none else some ((aG.mk []:aG),(5:Int))) (some (k7 (if 300≤l[j].Uses.length then (3,l) else (0,l.set j ⟨l[j].ID,l[j].ab,l[j].ah,l[j].Uses++[⟨e.Ref.Version,e.Form,e.ar.Time⟩],l[j].ae⟩)))) (by omega) (fun n i u FA hi=>?_) (fun n=>?_) (by omega)
    ·rw [l1,ku (fun _ (u:ay)=>!(u.Form == e.Form)),py]
     have ea:(l[j].Uses.all fun u=>!(u.Form == e.Form))=!(l[j].Uses.any fun u=>u.Form == e.Form):=by
      rw [List.not_any_eq_all_not]
     rw [ea]
     cases (l[j].Uses.any fun u=>u.Form == e.Form) with
     | true=>simp [k7]
     | false =>
      simp only [Bool.not_false,if_true,Bool.false_eq_true,if_false]
      by_cases h3:300≤l[j].Uses.length
      ·simp [h3]
      ·simp [h3]
    ·simp only [tI,yO,jT FA,if_true,jr FA,Option.bind_some,jJ hi]
     cases (u.Form == e.Form) <;> simp
    ·simp only [tI,yO,jE,Bool.false_eq_true,if_false]
     by_cases h3:300≤l[j].Uses.length
     ·have d3:((l[j].Uses.length:Int) == 300)=true:=by rw [beq_iff_eq]; omega
      simp only [d3,h3,if_true]; rfl
     ·have d3:((l[j].Uses.length:Int) == 300)=false:=by rw [beq_eq_false_iff_ne]; omega
      simp only [d3,h3,if_false,Bool.false_eq_true]
      rw [c9 (by simp; omega),Option.bind_some,c9 (by simp; omega),Option.bind_some,nW h hF iG bB hp]
      simp [k7]
theorem rb {F:Nat} {l:List ak} {e:ax} (h:iq l) (hF:400<F) (hk:e.Kind=5 ∨ e.Kind=6):DS F ⟨l⟩ e.Ref.ID (decide (e.Kind=5))=some (k7 (cP l e)):=by
 have n1:¬ e.Kind=1:=by omega
 have n2:¬ e.Kind=2:=by omega
 have n3:¬ e.Kind=3:=by omega
 have n4:¬ e.Kind=4:=by omega
 have hlen:=h.len
 unfold DS cP lA
 rw [pT (by omega) (by omega)]
 simp only [Option.bind_some,n1,n2,n3,n4,hk,Hd,if_false,false_or,if_true]
 cases hp:cG l e.Ref.ID with
 | none=>simp [k7]
 | some j =>
  obtain ⟨iG,bB⟩:=ef hp
  have d:decide ((j:Int)<0)=false:=by simp
  simp only [d,Bool.false_eq_true,if_false,dp iG,List.getElem?_eq_getElem iG,Option.bind_some,kh,n2,n3,n4,beq_iff_eq]
  by_cases hw:l[j].ae=decide (e.Kind=5)
  ·simp only [hw,if_true,show ¬ ((8:Int)=0) by omega,if_false]; rfl
  ·simp only [hw,if_false,if_true]
   rw [nW h hF iG bB hp]
   simp [k7]
theorem zg {F:Nat} {l:List ak} {e:ax} (hF:400<F):tL F ⟨l⟩ e=some (⟨(kW l e).1⟩,(kW l e).2):=by
 unfold tL
 rw [G3 hF]
 simp only [Option.bind_some]
 cases hv:jb l with
 | false=>simp [kW,hv]
 | true =>
  have h:=kz.1 hv
  rw [oD h]
  simp only [Bool.not_true,Bool.false_eq_true,if_false,beq_iff_eq]
  have fin:∀ c:Int × List ak,some ((k7 c).1,(k7 c).2)=some (aG.mk (if c.1=0 then (c.2,(0:Int)) else ([],c.1)).1,(if c.1=0 then (c.2,(0:Int)) else ([],c.1)).2):=fun c=>by
   unfold k7
   by_cases h0:c.1=0 <;> simp [h0]
  by_cases h1:e.Kind=1
  ·have e1:cP l e=kg l e:=by unfold cP; rw [if_pos h1]
   simp only [h1,if_true,GX h hF,Option.bind_some]
   rw [e1]; exact fin _
  ·by_cases h2:e.Kind=2
   ·simp only [h2,show ¬ ((2:Int)=1) by omega,if_false,if_true,DV h hF h2,Option.bind_some]
    exact fin _
   ·by_cases h3:e.Kind=3
    ·simp only [h3,show ¬ ((3:Int)=1) by omega,show ¬ ((3:Int)=2) by omega,if_false,if_true,Bq h hF h3,Option.bind_some]
     exact fin _
    ·by_cases h4:e.Kind=4
     ·simp only [h4,show ¬ ((4:Int)=1) by omega,show ¬ ((4:Int)=2) by omega,show ¬ ((4:Int)=3) by omega,if_false,if_true,Mw h hF h4,Option.bind_some]
      exact fin _
     ·by_cases h5:e.Kind=5
      ·have:=rb h hF (.inl h5)
       rw [show decide (e.Kind=5)=true by simp [h5]] at this
       simp only [h1,h2,h3,h4,h5,if_false,if_true,this,Option.bind_some,show ¬ ((5:Int)=1) by omega,show ¬ ((5:Int)=2) by omega,show ¬ ((5:Int)=3) by omega,show ¬ ((5:Int)=4) by omega]
       exact fin _
      ·by_cases h6:e.Kind=6
       ·have:=rb h hF (.inr h6)
        rw [show decide (e.Kind=5)=false by simp [h5]] at this
        simp only [h6,if_false,if_true,this,Option.bind_some,show ¬ ((6:Int)=1) by omega,show ¬ ((6:Int)=2) by omega,show ¬ ((6:Int)=3) by omega,show ¬ ((6:Int)=4) by omega,show ¬ ((6:Int)=5) by omega]
        exact fin _
       ·have e1:cP l e=(2,l):=by unfold cP; simp [h1,h2,h3,h4,h5,h6]
        simp only [h1,h2,h3,h4,h5,h6,if_false,e1]
        simp
theorem Bs {F:Nat} {u:Int} {c:List ax} {z:Int} (hF:400<F) (hb:c.length<1000000) (hs:c.Pairwise fun a b=>a.ar.Time≤b.ar.Time):∀ (s p:List ax) (n:Nat) (l:List ak) (r:List cg),c=p++s→s.length<n→iq l→r.length≤p.length→Bp F u (c,z) n (p.length:Int) l r=some (⟨(jM (kH u s) l r).1⟩,(jM (kH u s) l r).2,0):=by
 intro s
 induction s with
 | nil=>intro p n l r hp hn hv hr; cases n with
  | zero=>omega
  | succ n =>
   have:c=p:=by simpa using hp
   subst this
   simp only [Bp,yH,Int.lt_irrefl,decide_false,Bool.false_eq_true,if_false,kH,List.takeWhile_nil,jM]
 | cons e s ih=>intro p n l r hp hn hv hr; cases n with
  | zero=>omega
  | succ n =>
   have hlen:p.length<1000000:=by rw [hp] at hb; simp at hb; omega
   have d1:decide ((p.length:Int)<(c.length:Int))=true:=by rw [hp]; exact HL p e s
   have i1:idx c (p.length:Int)=some e:=by rw [hp]; exact jH p e s
   have rC:=hs
   rw [hp] at rC
   have SL:=(List.pairwise_append.1 rC).2.1
   simp only [Bp,yH,d1,if_true,i1,Option.bind_some]
   by_cases hu:e.ar.Time≤u
   ·have d2:decide (e.ar.Time > u)=false:=by simp; omega
    have hw:kH u (e :: s)=e :: kH u s:=by unfold kH; rw [List.takeWhile_cons_of_pos (by simpa using hu)]
    simp only [d2,Bool.false_eq_true,if_false,zg hF,Option.bind_some,oD hv,hw,jM]
    rw [L8 p e (by omega)]
    by_cases h0:(cP l e).1=0
    ·simp only [h0,if_true,bne_self_eq_false,Bool.false_eq_true,if_false]
     exact ih (p++[e]) n _ r (by rw [hp]; simp) (by simpa using hn) (nS hv) (by simp; omega)
    ·have HT:((cP l e).1 != 0)=true:=by simp [h0]
     simp only [h0,if_false,HT,if_true]
     rw [c9 (by simp; omega),Option.bind_some,BA h0]
     exact ih (p++[e]) n l _ (by rw [hp]; simp) (by simpa using hn) hv (by simp; omega)
   ·have d2:decide (e.ar.Time > u)=true:=by simp; omega
    have hw:kH u (e :: s)=[]:=by unfold kH; rw [List.takeWhile_cons_of_neg (by simpa using hu)]
    have qV:kH u s=[]:=by
     unfold kH
     cases s with
     | nil=>rfl
     | cons x s' =>
      have:=(List.pairwise_cons.1 SL).1 x (by simp)
      rw [List.takeWhile_cons_of_neg (by simp; omega)]
    simp only [d2,if_true,hw]
    rw [L8 p e (by omega),ih (p++[e]) n l r (by rw [hp]; simp) (by simpa using hn) hv (by simp; omega),qV]
theorem As (l:List ax):(Hs (fun x:ax=>x.ar) l).Pairwise fun a b=>a.ar.Time≤b.ar.Time:=(ET (fun x:ax=>x.ar) l).sorted.imp fun h=>by rw [iu] at h; omega
theorem IB {F:Nat} (hF:400<F) {ev:List ax} {u:Int} (hc:qL F ev) (hb:ev.length<1000000) (R9:ev.length<F):y3 F ev u=some (⟨(mi ev u).1⟩,(mi ev u).2.1,(mi ev u).2.2):=by
 unfold y3 mi
 rw [vT hc hb R9]
 simp only [Option.bind_some]
 have hle:=su (fun x:ax=>x.ar) ev
 have hs:(gO (fun x:ax=>x.ar) ev).1.Pairwise fun a b=>a.ar.Time≤b.ar.Time:=by
  unfold gO
  split
  ·simp
  ·exact As ev
 generalize gO (fun x:ax=>x.ar) ev=c at hle hs
 by_cases h0:c.2=0
 ·simp only [h0,bne_self_eq_false,Bool.false_eq_true,if_false,ne_eq,not_true_eq_false]
  have:=Bs (c:=c.1) (u:=u) (z:=c.2) hF (by omega) hs c.1 [] F [] [] rfl (by omega) qb (by simp)
  exact this
 ·have:(c.2 != 0)=true:=by simp [h0]
  simp [this,h0]
end Go.Sh
namespace Go.Sh
open Go.L
theorem jC.set {F:Nat} {l:List ak} (h:jC F l) {r:ak} (hr:uQ F r):jC F (l.set 0 r) :=
 ⟨by simpa using h.l1,by simpa using h.l2,fun x hx=>(List.mem_or_eq_of_mem_set hx).elim (h.r x) (fun he=>he ▸ hr)⟩
theorem Kt {F:Nat} {t:aP} (h:Tp t) (n:Int) (hn:n≤1000000) (hF:2000≤F):cR (MJ F t n) fun r=>Tp r.2∧jC F r.1.aa:=by
 unfold MJ
 obtain ⟨l,t1,a1,a2,a3,a4⟩:=pz (F:=F) h 14 0 (by omega) (by omega) (by omega)
 rw [show (14:Int)=((14:Nat):Int) from rfl,a1]; simp only [Option.bind_some]
 rw [IB (by omega) (a4.short (by omega)) (by omega) (by omega)]; simp only [Option.bind_some]
 have hV:=CV (ev:=l) (u:=1000000)
 have hS:=hV.sh (F:=F) (by omega)
 generalize (mi l 1000000).1=b at hV hS
 have w1:cR (if (decide (n > 0))=true then (oz t1 n).bind fun r8=>if r8.1=true then some ((decide ((b.length:Int) > 0)),r8.2.L,r8.2.At) else some (false,r8.2.L,r8.2.At) else some (false,t1.L,t1.At)) fun w=>Tp (aP.mk w.2.1 w.2.2)∧(w.1=true→0<b.length):=by
  refine cR.ite (fun _=>?_) (fun _=>cR.pure ⟨a2,fun h=>by cases h⟩)
  refine (Iv a2 n (by omega)).bind fun r hr=>?_
  exact cR.ite (fun _=>cR.pure ⟨hr.mk',fun h=>by simpa using h⟩) (fun _=>cR.pure ⟨hr.mk',fun h=>by cases h⟩)
 refine w1.bind fun w hw=>?_
 refine cR.ite (fun Oy=>?_) (fun _=>cR.pure ⟨hw.1,hS⟩)
 have hb:=hw.2 Oy
 have hlen:=hV.len
 refine cR.idx (by omega) (by simpa using hb) fun x hx Jp=>?_
 have hR:=hS.r x hx
 have gD:=hV.ok x hx
 have h8:=gD.n8; have KC:=gD.ap; have FD:=gD.us
 refine (jw hw.1 4 (by omega)).bind fun dD MN=>?_
 refine cR.ite (fun _=>?_) (fun _=>?_)
 ·refine cR.app (by simp; omega) ?_
  refine cR.app (by simp; omega) ?_
  refine cR.idx (by omega) (by simpa using hb) fun y hy Ic=>?_
  exact cR.pure ⟨MN.1,hS.set ⟨hR.vl,hR.v,by simp; omega,hR.u⟩⟩
 ·refine cR.ite (fun _=>?_) (fun _=>?_)
  ·refine (jw MN.1 5 (by omega)).bind fun j5 Vx=>?_
   refine cR.app (by simp; omega) ?_
   refine cR.idx (by omega) (by simpa using hb) fun y hy Ic=>?_
   exact cR.pure ⟨Vx.1,hS.set ⟨hR.vl,hR.v,hR.a,hR.u⟩⟩
  ·refine cR.ite (fun _=>?_) (fun _=>?_)
   ·refine (iV MN.1 0 9 (by omega) (by omega) (by omega)).bind fun j6 Vy=>?_
    refine cR.app (by simp; omega) ?_
    refine cR.app (by simp; omega) ?_
    refine cR.idx (by omega) (by simpa using hb) fun y hy Ic=>?_
    exact cR.pure ⟨Vy.1,hS.set ⟨hR.vl,hR.v,hR.a,by simp; omega⟩⟩
   ·refine cR.app (by simp; omega) ?_
    refine cR.app (by simp; omega) ?_
    refine cR.idx (by omega) (by simp) fun y hy Ic=>?_
    refine cR.pure ⟨MN.1,jC.set ⟨by simp; omega,by simp; omega,fun z hz=>?_⟩ hR⟩
    rcases List.mem_append.1 (by simpa using hz:z ∈ b++[x]) with hz | hz
    ·exact hS.r z hz
    ·rw [List.mem_singleton.1 hz]; exact hR
theorem jC.find {F:Nat} {l:List ak} (h:jC F l) (hF:0<F) (c:Int):uQ F (I5 l c).1:=by
 unfold I5
 cases hf:l.find? (fun r=>decide (r.ID=c)) with
 | none=>exact ⟨by simp [Hn]; omega,by simp [Hn],by simp [Hn]; omega,by simp [Hn]; omega⟩
 | some x=>exact h.r x (List.mem_of_find?_eq_some hf)
theorem CM {F:Nat} {l:List ak} {e:ax} (hF:400<F):jC F (kW l e).1:=by
 have h0:jC F []:=⟨by simp,by simp; omega,by simp⟩
 unfold kW
 split
 ·rename_i hv
  split
  ·exact (nS (kz.1 hv)).sh hF
  ·exact h0
 ·exact h0
theorem El (t:List Int):∃ F,Cn F t=some true:=by
 refine ⟨2000,?_⟩
 obtain ⟨t0,a1,a2⟩:=PU t
 obtain ⟨⟨⟨l⟩,t2⟩,c1,c2,hS⟩:=Kt (F:=2000) a2 10 (by omega) (by omega)
 obtain ⟨ev,t3,d1,d2,d3,d4⟩:=pz (F:=2000) c2 6 3 (by omega) (by omega) (by omega)
 unfold Cn
 rw [a1]; simp only [Option.bind_some]
 rw [c1]; simp only [Option.bind_some]
 rw [show (6:Int)=((6:Nat):Int) from rfl,d1]; simp only [Option.bind_some]
 by_cases h0:ev.length=0
 ·have e0:((ev.length:Int) == 0)=true:=by simp [h0]
  simp only [e0,if_true,BN (Nat.le_refl 2000),Option.bind_some]
 ·have e0:((ev.length:Int) == 0)=false:=by rw [beq_eq_false_iff_ne]; omega
  have hw:i64 ((ev.length:Int) - 1)=((ev.length - 1:Nat):Int):=by rw [cX (by omega) (by omega)]; omega
  simp only [e0,Bool.false_eq_true,if_false,hw,dp (show ev.length - 1<ev.length by omega),Option.bind_some]
  rw [HJ (by omega),zg (by omega)]; simp only [Option.bind_some]
  rw [Bu (CM (by omega)),BN (Nat.le_refl 2000)]
  simp
end Go.Sh
