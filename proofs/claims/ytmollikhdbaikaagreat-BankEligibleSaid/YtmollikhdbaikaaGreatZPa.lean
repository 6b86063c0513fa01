import Derived.Test.YtmollikhdbaikaaGreatZSh
set_option linter.unusedVariables false
set_option linter.unusedSimpArgs false
namespace Go.Sh
open Go.L
theorem cQ {n:Int} (h1:-9223372036854775808≤n) (h2:n≤9223372036854775807):i64 n=n:=by
 show IntKind.i64.wrap n=n
 rw [IntKind.wrap_i64]; omega
theorem ni {α:Type} (l:List α) (i:Nat):idx l (i:Int)=l[i]?:=by
 unfold idx; simp
theorem jd {α:Type} {l:List α} {i:Int} {x:α}:idx l i=some x ↔ 0≤i∧l[i.toNat]?=some x:=by
 unfold idx; split
 ·simp_all
 ·constructor
  ·intro h; cases h
  ·intro h; omega
theorem dx {α:Type} {l:List α} {i:Nat} (h:i<l.length):idx l (i:Int)=some l[i]:=by
 rw [ni]; simp [h]
theorem jq {α:Type} (p:List α) (x:α) (s:List α):idx (p++x :: s) (p.length:Int)=some x:=by
 rw [ni]; simp
theorem c8 {α:Type} {xs ys:List α} (h:xs.length+ys.length≤549755813888):app xs ys=some (xs++ys):=by unfold app; rw [if_pos h]
theorem yM {α:Type} {xs:List α} {n:Nat} (h:n≤xs.length):DY xs 0 n=some (xs.take n):=by
 unfold DY; rw [if_pos ⟨by omega,by omega,by omega⟩]; simp
theorem GK {α:Type} {xs:List α} {n:Nat} (h:n≤xs.length):DY xs n (xs.length:Int)=some (xs.drop n):=by
 unfold DY; rw [if_pos ⟨by omega,by omega,by omega⟩]; simp
theorem vL {α:Type} {z:α} {n:Nat} (h:n≤1000000):DV z (n:Int)=some (List.replicate n z):=by
 unfold DV; rw [if_pos ⟨by omega,by omega⟩]; simp
theorem Hn {α:Type} (p:List α) (x:α) (s:List α):decide ((p.length:Int)<((p++x :: s).length:Int))=true:=by simp; omega
theorem UJ {α:Type} (p:List α):decide ((p.length:Int)<((p++[]).length:Int))=false:=by simp
theorem Lj {α:Type} (p:List α) (x:α) (h:p.length<1000000000):i64 ((p.length:Int)+1)=((p++[x]).length:Int):=by
 rw [cQ (by omega) (by omega)]; simp
theorem snoc {α:Type} (p:List α) (x:α) (s:List α):p++x :: s=(p++[x])++s:=by simp
theorem Jd {α R:Type} {L:Nat→α→Option R} {B:(α→Option R)→α→Option R} (hL:∀ n,L (n+1)=B (L n)) (I:α→Prop) (μ:α→Nat) (iT:R→Prop)
  (step:∀ rec a,I a→(∀ a',I a'→μ a'<μ a→∃ r,rec a'=some r∧iT r)→∃ r,B rec a=some r∧iT r):∀ n a,I a→μ a<n→∃ r,L n a=some r∧iT r:=by
 intro n
 induction n with
 | zero=>intro a _ h; omega
 | succ n ih=>intro a hI h; rw [hL]; exact step _ a hI fun a' h1 h2=>ih a' h1 (by omega)
theorem BF {α β R:Type} {L:Nat→α→β→Option R} {B:(α→β→Option R)→α→β→Option R} (hL:∀ n,L (n+1)=B (L n)) (I:α→β→Prop) (μ:α→β→Nat) (iT:R→Prop)
  (step:∀ rec a b,I a b→(∀ a' b',I a' b'→μ a' b'<μ a b→∃ r,rec a' b'=some r∧iT r)→∃ r,B rec a b=some r∧iT r):∀ n a b,I a b→μ a b<n→∃ r,L n a b=some r∧iT r:=by
 intro n
 induction n with
 | zero=>intro a b _ h; omega
 | succ n ih=>intro a b hI h; rw [hL]; exact step _ a b hI fun a' b' h1 h2=>ih a' b' h1 (by omega)
theorem Fz {α β γ δ R:Type} {L:Nat→α→β→γ→δ→Option R} {B:(α→β→γ→δ→Option R)→α→β→γ→δ→Option R} (hL:∀ n,L (n+1)=B (L n)) (I:α→β→γ→δ→Prop) (μ:α→β→γ→δ→Nat) (iT:R→Prop)
  (step:∀ rec a b c d,I a b c d→(∀ a' b' c' d',I a' b' c' d'→μ a' b' c' d'<μ a b c d→∃ r,rec a' b' c' d'=some r∧iT r)→∃ r,B rec a b c d=some r∧iT r):∀ n a b c d,I a b c d→μ a b c d<n→∃ r,L n a b c d=some r∧iT r:=by
 intro n
 induction n with
 | zero=>intro a b c d _ h; omega
 | succ n ih=>intro a b c d hI h; rw [hL]; exact step _ a b c d hI fun a' b' c' d' h1 h2=>ih a' b' c' d' h1 (by omega)
theorem OV {α β γ δ ε R:Type} {L:Nat→α→β→γ→δ→ε→Option R} {B:(α→β→γ→δ→ε→Option R)→α→β→γ→δ→ε→Option R} (hL:∀ n,L (n+1)=B (L n)) (I:α→β→γ→δ→ε→Prop) (μ:α→β→γ→δ→ε→Nat) (iT:R→Prop)
  (step:∀ rec a b c d e,I a b c d e→(∀ a' b' c' d' e',I a' b' c' d' e'→μ a' b' c' d' e'<μ a b c d e→∃ r,rec a' b' c' d' e'=some r∧iT r)→∃ r,B rec a b c d e=some r∧iT r):∀ n a b c d e,I a b c d e→μ a b c d e<n→∃ r,L n a b c d e=some r∧iT r:=by
 intro n
 induction n with
 | zero=>intro a b c d e _ h; omega
 | succ n ih=>intro a b c d e hI h; rw [hL]; exact step _ a b c d e hI fun a' b' c' d' e' h1 h2=>ih a' b' c' d' e' h1 (by omega)
def kW (a b:Int):Int:=if a<b then -1 else if b<a then 1 else 0
theorem na (a b:Int):cE a b=some (kW a b):=by
 simp only [cE,cmp_isNaN_int,kW,Option.bind_some,bne_self_eq_false,Bool.false_eq_true,if_false,decide_eq_true_eq,gt_iff_lt]
 repeat' split
 all_goals first | rfl | omega
theorem H4 (a b:Int):yB a b=some (kW a b):=by
 simp only [yB,kW,decide_eq_true_eq,gt_iff_lt]
 repeat' split
 all_goals first | rfl | omega
def Jg:List Int→Int
 | []=>0
 | x :: r=>if x=0 then Jg r else x
theorem H3 (s:List Int):∀ (p:List Int) (n:Nat),(p++s).length<1000000→s.length<n→eK (p++s) n (p.length:Int)=some (Jg s):=by
 induction s with
 | nil=>intro p n hb hn; cases n with
  | zero=>omega
  | succ n=>simp only [eK,fw,UJ,Bool.false_eq_true,if_false,Jg]
 | cons x s ih=>intro p n hb hn; cases n with
  | zero=>omega
  | succ n =>
   simp only [eK,fw,Hn,jq,if_true,Option.bind_some,Jg,bne_iff_ne,ne_eq]
   by_cases h:x=0
   ·simp only [h,not_true_eq_false,if_false,if_true]
    have hl:p.length<1000000000:=by simp at hb; omega
    rw [Lj p 0 hl,snoc]
    exact ih (p++[0]) n (by simpa using hb) (by simpa using hn)
   ·simp [h]
theorem Lx {F:Nat} {xs:List Int} (hb:xs.length<1000000) (hF:xs.length<F):gC F xs=some (Jg xs):=by
 have:=H3 xs [] F (by simpa using hb) hF
 simpa [gC] using this
def dH (x y:aL):Int:=if kW x.Source y.Source ≠ 0 then kW x.Source y.Source else kW x.Seq y.Seq
def gN (x y:aL):Int:=if kW x.Time y.Time ≠ 0 then kW x.Time y.Time else dH x y
theorem qs {F:Nat} (hF:10≤F) (x y:aL):C6 F x y=some (dH x y):=by
 simp only [C6,na,Option.bind_some]
 rw [Lx (by simp) (by simp; omega)]
 simp only [Option.bind_some,Jg,dH]
 repeat' split
 all_goals simp_all
theorem tJ {F:Nat} (hF:10≤F) (x y:aL):yd F x y=some (gN x y):=by
 simp only [yd,na,Option.bind_some]
 rw [Lx (by simp) (by simp; omega)]
 simp only [Option.bind_some,Jg,gN,dH]
 repeat' split
 all_goals simp_all
theorem wc (x y:aL):ya x y=some (gN x y):=by
 simp only [ya,H4,Option.bind_some,gN,dH,beq_iff_eq]
 repeat' split
 all_goals simp_all
def aL.pZ (x:aL):Bool:=(decide (x.Time ≥ 0)) && ((decide (x.Time≤1000000)) && ((decide (x.Source ≥ 0)) && ((decide (x.Source≤99)) && ((decide (x.Seq ≥ 0)) && (decide (x.Seq≤9999))))))
theorem Ip (x:aL):BZ x=some x.pZ:=rfl
theorem tx (x:aL):yj x=some x.pZ:=rfl
theorem o8 {a b : Int} : kW a b < 0 ↔ a < b := by unfold kW; repeat' split
                                                  all_goals omega
theorem jM {a b : Int} : kW a b = 0 ↔ a = b := by unfold kW; repeat' split
                                                  all_goals omega
theorem fv {x y:aL}:dH x y<0 ↔ x.Source<y.Source ∨ x.Source=y.Source∧x.Seq<y.Seq:=by
 unfold dH; have:=@jM x.Source y.Source; split
 ·rw [o8]; simp_all
 ·rw [o8]; simp_all
theorem dP {x y:aL}:dH x y=0 ↔ x.Source=y.Source∧x.Seq=y.Seq:=by
 unfold dH; have:=@jM x.Source y.Source; have:=@jM x.Seq y.Seq; split <;> simp_all
theorem hD {x y:aL}:gN x y<0 ↔ x.Time<y.Time ∨ x.Time=y.Time∧(x.Source<y.Source ∨ x.Source=y.Source∧x.Seq<y.Seq):=by
 unfold gN; have:=@jM x.Time y.Time; split
 ·rw [o8]; simp_all
 ·rw [fv]; simp_all
theorem zH {x y:aL}:gN x y=0 ↔ x=y:=by
 have h1:=@jM x.Time y.Time
 have h2:=@dP x y
 have h3:x=y ↔ x.Time=y.Time∧x.Source=y.Source∧x.Seq=y.Seq:=by cases x; cases y; simp
 unfold gN; split <;> simp_all
theorem sg {x y:aL}:gN x y > 0 ↔ gN y x<0:=by
 rw [hD]
 unfold gN dH kW
 repeat' split
 all_goals omega
end Go.Sh
namespace Go.Sh
open Go.L
theorem oR {α:Type} {R:α→α→Prop} (hi:∀ a,¬ R a a) (ht:∀ a b c,R a b→R b c→R a c):∀ {xs ys:List α},xs.Pairwise R→ys.Pairwise R→(∀ a,a ∈ xs ↔ a ∈ ys)→xs=ys
 | [],[],_,_,_=>rfl
 | [],y :: ys,_,_,h=>by have:=(h y).2 (by simp); simp at this
 | x :: xs,[],_,_,h=>by have:=(h x).1 (by simp); simp at this
 | x :: xs,y :: ys,hx,hy,h=>by
  rw [List.pairwise_cons] at hx hy
  have rh:x=y:=by
   rcases List.mem_cons.1 ((h x).1 (by simp)) with h1 | h1
   ·exact h1
   ·rcases List.mem_cons.1 ((h y).2 (by simp)) with h2 | h2
    ·exact h2.symm
    ·exact absurd (ht _ _ _ (hx.1 y h2) (hy.1 x h1)) (hi x)
  subst rh
  congr 1
  refine oR hi ht hx.2 hy.2 fun a=>?_
  have:=h a
  simp only [List.mem_cons] at this
  constructor
  ·intro ha
   rcases this.1 (.inr ha) with h1 | h1
   ·subst h1; exact absurd (hx.1 a ha) (hi a)
   ·exact h1
  ·intro ha
   rcases this.2 (.inr ha) with h1 | h1
   ·subst h1; exact absurd (hy.1 a ha) (hi a)
   ·exact h1
def uf {α:Type} (lt:α→α→Bool) (x:α):List α→List α
 | []=>[x]
 | y :: r=>if lt x y then x :: y :: r else y :: uf lt x r
theorem xx {α:Type} {lt:α→α→Bool} {x a:α}:∀ {l:List α},a ∈ uf lt x l ↔ a=x ∨ a ∈ l
 | []=>by simp [uf]
 | y :: r=>by
  simp only [uf]
  split
  ·simp
  ·simp only [List.mem_cons,xx (l:=r)]
   constructor
   ·rintro (h | h | h) <;> simp [h]
   ·rintro (h | h | h) <;> simp [h]
theorem uR {α:Type} {lt:α→α→Bool} {x:α}:∀ {l:List α},(uf lt x l).Perm (x :: l)
 | []=>.refl _
 | y :: r=>by
  simp only [uf]
  split
  ·exact .refl _
  ·exact (uR.cons y).trans (List.Perm.swap x y r)
theorem qL {α:Type} {lt:α→α→Bool} {x:α}:∀ {l:List α},(∀ a ∈ x :: l,∀ b ∈ x :: l,∀ c ∈ x :: l,lt a b=true→lt b c=true→lt a c=true)→(∀ y ∈ l,lt x y=true ∨ lt y x=true)→l.Pairwise (fun a b=>lt a b=true)→(uf lt x l).Pairwise fun a b=>lt a b=true
 | [],_,_,_=>by simp [uf]
 | y :: r,ht,Nx,hp=>by
  rw [List.pairwise_cons] at hp
  simp only [uf]
  split
  ·rename_i rh
   rw [List.pairwise_cons]
   refine ⟨fun a ha=>?_,List.pairwise_cons.2 hp⟩
   rcases List.mem_cons.1 ha with rfl | Qv
   ·exact rh
   ·exact ht x (by simp) y (by simp) a (by simp [Qv]) rh (hp.1 a Qv)
  ·rename_i rh
   have Hf:lt y x=true:=(Nx y (by simp)).resolve_left rh
   rw [List.pairwise_cons]
   have jc:∀ a,a ∈ x :: r→a ∈ x :: y :: r:=fun a ha=>by rcases List.mem_cons.1 ha with h | h <;> simp [h]
   refine ⟨fun a ha=>?_,qL (fun a ha b hb c hc=>ht a (jc a ha) b (jc b hb) c (jc c hc)) (fun z hz=>Nx z (by simp [hz])) hp.2⟩
   rcases xx.1 ha with rfl | ha
   ·exact Hf
   ·exact hp.1 a ha
def pA {α:Type} (lt:α→α→Bool):List α→List α
 | []=>[]
 | x :: r=>uf lt x (pA lt r)
theorem gH {α:Type} {lt:α→α→Bool}:∀ {l:List α},(pA lt l).Perm l
 | []=>.refl _
 | x :: r=>uR.trans (gH.cons x)
theorem lC {α:Type} {lt:α→α→Bool}:∀ {l:List α},(∀ a ∈ l,∀ b ∈ l,∀ c ∈ l,lt a b=true→lt b c=true→lt a c=true)→l.Pairwise (fun a b=>lt a b=true ∨ lt b a=true)→(pA lt l).Pairwise fun a b=>lt a b=true
 | [],_,_=>by simp [pA]
 | x :: r,ht,hp=>by
  rw [List.pairwise_cons] at hp
  simp only [pA]
  have hm:∀ a,a ∈ x :: pA lt r→a ∈ x :: r:=fun a ha=>by
   rcases List.mem_cons.1 ha with h | h
   ·simp [h]
   ·simp [gH.mem_iff.1 h]
  exact qL (fun a ha b hb c hc=>ht a (hm a ha) b (hm b hb) c (hm c hc)) (fun y hy=>hp.1 y (gH.mem_iff.1 hy)) (lC (fun a ha b hb c hc=>ht a (by simp [ha]) b (by simp [hb]) c (by simp [hc])) hp.2)
theorem yN {α:Type} {c:α→α→Option Int} {xs:List α} (cf:α→α→Int) (hlen:xs.length<1000000) (hc:∀ x ∈ xs,∀ y ∈ xs,c x y=some (cf x y)) (hi:∀ x ∈ xs,¬ cf x x<0) (ht:∀ x ∈ xs,∀ y ∈ xs,∀ z ∈ xs,cf x y<0→cf y z<0→cf x z<0)
  (hn:∀ x ∈ xs,∀ y ∈ xs,∀ z ∈ xs,¬ cf x y<0→¬ cf y z<0→¬ cf x z<0) (hd:xs.Pairwise fun a b=>cf a b<0 ∨ cf b a<0):∃ ys,pM c xs=some ys∧ys.Perm xs∧ys.Pairwise fun a b=>cf a b<0:=by
 have hs:=lC (lt:=fun a b=>decide (cf a b<0)) (l:=xs) (fun a ha b hb c hc=>by simpa using ht a ha b hb c hc) (by simpa using hd)
 have E6:(pA (fun a b=>decide (cf a b<0)) xs).Pairwise fun a b=>cf a b<0:=by simpa using hs
 exact ⟨_,GM ⟨gH,hlen,cf,hc,hi,ht,hn,E6⟩,gH,E6⟩
def Hh (x y:aL):Prop:=x.Source=y.Source∧x.Seq=y.Seq
instance (x y:aL):Decidable (Hh x y):=by unfold Hh; infer_instance
def sZ (l:List aL) (i:Nat):Prop:=∃ x,l[i]?=some x∧x.pZ=true
def tY (l:List aL) (cl:List Int) (i k:Nat):Prop:=∃ x y c d,l[i]?=some x∧l[k]?=some y∧cl[i]?=some c∧cl[k]?=some d∧Hh x y∧(x.Time ≠ y.Time ∨ c ≠ d)
def counts (l:List aL) (cl:List Int) (i:Nat):Prop:=sZ l i∧∀ k,sZ l k→¬ tY l cl i k∧(k<i→l[k]? ≠ l[i]?)
def kM (l:List aL) (a b:Int):Prop:=∃ x y,l[a.toNat]?=some x∧l[b.toNat]?=some y∧gN x y<0
structure ks (l:List aL) (cl:List Int) (a:List Int):Prop where
 sorted:a.Pairwise (kM l)
 mem:∀ i,i ∈ a ↔ 0≤i∧counts l cl i.toNat
theorem FA (l:List aL) (a:Int):¬ kM l a a:=by
 rintro ⟨x,y,h1,h2,h3⟩
 rw [h1] at h2; cases h2
 rw [hD] at h3; omega
theorem oD (l:List aL) (a b c:Int) (h:kM l a b) (h':kM l b c):kM l a c:=by
 obtain ⟨x,y,h1,h2,h3⟩:=h
 obtain ⟨y',z,h4,h5,h6⟩:=h'
 rw [h2] at h4; cases h4
 refine ⟨x,z,h1,h5,?_⟩
 rw [hD] at *; omega
theorem ks.unique {l:List aL} {cl:List Int} {a b:List Int} (h:ks l cl a) (h':ks l cl b):a=b :=
 oR (FA l) (oD l) h.sorted h'.sorted fun i=>by rw [h.mem,h'.mem]
def Canon (l:List aL) (cl:List Int) (r:List Int × Int):Prop :=
 if l.length ≠ cl.length then r=([],1) else ∃ a,ks l cl a∧r=if 300<a.length then ([],3) else (a,0)
theorem Canon.unique {l:List aL} {cl:List Int} {r s:List Int × Int} (h:Canon l cl r) (h':Canon l cl s):r=s:=by
 unfold Canon at *
 split at h
 ·rename_i hl; rw [if_pos hl] at h'; rw [h,h']
 ·rename_i hl; rw [if_neg hl] at h'
  obtain ⟨a,h1,rfl⟩:=h
  obtain ⟨b,h2,rfl⟩:=h'
  rw [h1.unique h2]
end Go.Sh
namespace Go.Sh
open Go.L
theorem np {l:List aL} {i:Nat} (h:i<l.length):sZ l i ↔ l[i].pZ=true:=by
 unfold sZ; simp [h]
theorem Bo {l:List aL} {cl:List Int} {i k:Nat} (h:i<l.length) (hk:k<l.length) (hl:l.length=cl.length):tY l cl i k ↔ Hh l[i] l[k]∧(l[i].Time ≠ l[k].Time ∨ cl[i] ≠ cl[k]):=by
 unfold tY
 have h':i<cl.length:=by omega
 have DL:k<cl.length:=by omega
 simp only [List.getElem?_eq_getElem,h,hk,h',DL,Option.some.injEq]
 constructor
 ·rintro ⟨x,y,c,d,rfl,rfl,rfl,rfl,h1,h2⟩; exact ⟨h1,h2⟩
 ·rintro ⟨h1,h2⟩; exact ⟨_,_,_,_,rfl,rfl,rfl,rfl,h1,h2⟩
theorem BK {l:List aL} {i:Nat} (h:l.length≤i):¬ sZ l i:=by
 rintro ⟨x,h1,_⟩; rw [List.getElem?_eq_none h] at h1; cases h1
theorem wT {l:List aL} {cl:List Int} {i:Nat} (hi:i<l.length) (hl:l.length=cl.length) (hb:l.length<1000000) (QA:l[i].pZ=true) :
  ∀ n (k:Int),(∃ j:Nat,k=j∧j≤l.length∧∀ q,q<j→sZ l q→¬ tY l cl i q∧(q<i→l[q]? ≠ l[i]?))→(l.length - k.toNat)<n→∃ r,Dh l cl i n k=some r∧(r=true ↔ counts l cl i):=by
 refine Jd (L:=Dh l cl i) (B:=Dd l cl i) (fun _=>rfl) _ (fun k:Int=>l.length - k.toNat) _ ?_
 rintro rec k ⟨j,rfl,hj,hI⟩ po
 have gV:i<cl.length:=by omega
 by_cases dN:j<l.length
 ·have EN:j<cl.length:=by omega
  have d1:decide ((j:Int)<(l.length:Int))=true:=by simp; exact dN
  have nQ:i64 ((j:Int)+1)=((j+1:Nat):Int):=by rw [cQ (by omega) (by omega)]; rfl
  have Rl:(sZ l j→¬ tY l cl i j∧(j<i→l[j]? ≠ l[i]?))→∃ r,rec (i64 ((j:Int)+1))=some r∧(r=true ↔ counts l cl i):=fun h=>by
   rw [nQ]
   refine po _ ⟨j+1,rfl,by omega,fun q hq=>?_⟩ (by simp; omega)
   rcases Nat.lt_succ_iff_lt_or_eq.1 hq with h1 | rfl
   ·exact hI q h1
   ·exact h
  unfold Dd
  simp only [d1,if_true,dx dN,dx hi,dx EN,dx gV,tx,Option.bind_some,BV]
  by_cases hg:l[j].pZ=true
  ·have gv:sZ l j:=(np dN).2 hg
   simp only [hg,if_true]
   by_cases hd:((l[i].Source == l[j].Source) && ((l[i].Seq == l[j].Seq) && ((l[i].Time != l[j].Time) || (cl[i] != cl[j]))))=true
   ·simp only [hd,if_true,Option.bind_some]
    refine ⟨false,rfl,?_⟩
    simp only [Bool.false_eq_true,false_iff]
    intro hc
    refine (hc.2 j gv).1 ((Bo hi dN hl).2 ?_)
    simp at hd; unfold Hh; exact ⟨⟨hd.1,hd.2.1⟩,hd.2.2⟩
   ·have Qx:¬ tY l cl i j:=fun h=>hd (by
     have:=(Bo hi dN hl).1 h; unfold Hh at this; simp [this])
    simp only [bF hd,Bool.false_eq_true,if_false]
    by_cases HB:j<i
    ·have:decide ((j:Int)<(i:Int))=true:=by simp; exact HB
     simp only [this,if_true,Option.bind_some]
     by_cases he:l[j]=l[i]
     ·simp only [he,decide_true,if_true]
      refine ⟨false,rfl,?_⟩
      simp only [Bool.false_eq_true,false_iff]
      intro hc
      exact (hc.2 j gv).2 HB (by simp [dN,hi,he])
     ·simp only [he,decide_false,Bool.false_eq_true,if_false]
      exact Rl fun _=>⟨Qx,fun _ h=>he (by simpa [dN,hi] using h)⟩
    ·have:decide ((j:Int)<(i:Int))=false:=by simp; omega
     simp only [this,Bool.false_eq_true,if_false,Option.bind_some]
     exact Rl fun _=>⟨Qx,fun h=>absurd h HB⟩
  ·simp only [bF hg,Bool.false_eq_true,if_false,Option.bind_some]
   exact Rl fun h=>absurd ((np dN).1 h) hg
 ·have d1:decide ((j:Int)<(l.length:Int))=false:=by simp; omega
  unfold Dd
  simp only [d1,Bool.false_eq_true,if_false]
  refine ⟨true,rfl,?_⟩
  simp only [true_iff]
  refine ⟨(np hi).2 QA,fun k hk=>hI k ?_ hk⟩
  by_cases Hd:k<l.length
  ·omega
  ·exact absurd hk (BK (by omega))
theorem yC {F:Nat} {l:List aL} {cl:List Int} {i:Nat} (hi:i<l.length) (hl:l.length=cl.length) (hb:l.length<1000000) (hF:l.length<F):∃ b,yf F l cl i=some b∧(b=true ↔ counts l cl i):=by
 unfold yf
 simp only [dx hi,tx,Option.bind_some]
 by_cases hg:l[i].pZ=true
 ·simp only [hg,Bool.not_true,Bool.false_eq_true,if_false]
  exact wT hi hl hb hg F _ ⟨0,rfl,by omega,fun q hq=>by omega⟩ (by simpa using hF)
 ·simp only [bF hg,Bool.not_false,if_true]
  refine ⟨false,rfl,?_⟩
  simp only [Bool.false_eq_true,false_iff]
  exact fun h=>hg ((np hi).1 h.1)
theorem zJ {l:List aL} {cl:List Int} {i k:Nat} (hi:counts l cl i) (hk:counts l cl k) (h:l[i]?=l[k]?):i=k:=by
 rcases Nat.lt_trichotomy i k with h1 | h1 | h1
 ·exact absurd h ((hk.2 i hi.1).2 h1)
 ·exact h1
 ·exact absurd h.symm ((hi.2 k hk.1).2 h1)
theorem jN {l:List aL} {cl:List Int} {i:Nat} (h:counts l cl i):i<l.length:=by
 obtain ⟨⟨x,h1,_⟩,_⟩:=h
 exact (List.getElem?_eq_some_iff.1 h1).1
theorem oc {l:List aL} {cl:List Int} {i k:Nat} (hi:counts l cl i) (hk:counts l cl k) (h:i ≠ k):kM l i k ∨ kM l k i:=by
 have h1:=jN hi
 have h2:=jN hk
 have h3:l[i] ≠ l[k]:=fun he=>h (zJ hi hk (by simp [h1,h2,he]))
 have h4:¬ gN l[i] l[k]=0:=fun he=>h3 (zH.1 he)
 rcases Int.lt_or_gt_of_ne h4 with h5 | h5
 ·exact .inl ⟨l[i],l[k],by simp [h1],by simp [h2],h5⟩
 ·exact .inr ⟨l[k],l[i],by simp [h2],by simp [h1],sg.1 h5⟩
theorem GC {l:List aL} {cl:List Int} {out:List Int} {i:Nat} (hi:i<l.length) (hlen:out.length<1000000) (ov:∀ a ∈ out,0≤a∧a.toNat<l.length) (hs:out.Pairwise (kM l)) {aH:List Int→Int→Option (List Int × Int)} {iT:List Int × Int→Prop}
  (h:∀ p s,out=p++s→(∀ a ∈ s,kM l i a)→(∀ a,p.getLast?=some a→¬ kM l i a)→∃ r,aH (p++(i:Int) :: s) (i64 ((i:Int)+1))=some r∧iT r) :
  ∀ n (k:Int),(∃ p s,out=p++s∧k=(p.length:Int)∧∀ a ∈ s,kM l i a)→k.toNat<n→∃ r,Db aH l out i n k=some r∧iT r:=by
 refine Jd (L:=Db aH l out i) (B:=Gh aH l out i) (fun _=>rfl) _ (fun k:Int=>k.toNat) _ ?_
 rintro rec k ⟨p,s,rfl,rfl,QB⟩ po
 unfold Gh
 have fin:(∀ a,p.getLast?=some a→¬ kM l i a)→∃ r,((DY (p++s) 0 (p.length:Int)).bind fun DZ=>(app [] DZ).bind fun v17=>(app v17 [(i:Int)]).bind fun pP=>(DY (p++s) (p.length:Int) ((p++s).length:Int)).bind fun qQ=>(app pP qQ).bind fun v20=>aH v20 (i64 ((i:Int)+1)))=some r∧iT r:=fun ER=>by
  simp only [List.length_append] at hlen
  rw [yM (by simp),GK (by simp)]
  simp only [Option.bind_some,List.take_left,List.drop_left]
  rw [c8 (by simp; omega)]
  simp only [Option.bind_some,List.nil_append]
  rw [c8 (by simp; omega)]
  simp only [Option.bind_some]
  rw [c8 (by simp; omega)]
  simp only [Option.bind_some,List.append_assoc,List.singleton_append]
  exact h p s rfl QB ER
 rcases List.eq_nil_or_concat p with rfl | ⟨q,a,rfl⟩
 ·simp only [List.length_nil,Int.ofNat_zero,gt_iff_lt,Int.lt_irrefl,decide_false,Bool.false_eq_true,if_false,Option.bind_some]
  exact fin (by simp)
 ·rw [List.concat_eq_append] at *
  have ha:=ov a (by simp)
  have d1:decide (((q++[a]).length:Int) > 0)=true:=by simp only [List.length_append,List.length_singleton,decide_eq_true_eq]; omega
  have hw:i64 (((q++[a]).length:Int) - 1)=(q.length:Int):=by
   simp only [List.length_append,List.length_singleton] at hlen ⊢
   rw [cQ (by omega) (by omega)]; omega
  have hq:idx (q++[a]++s) (q.length:Int)=some a:=by rw [List.append_assoc]; exact jq q a s
  have hx:idx l a=some l[a.toNat]:=by rw [jd]; exact ⟨ha.1,by simp [ha.2]⟩
  simp only [d1,if_true,hw,hq,hx,dx hi,wc,Option.bind_some]
  by_cases hc:gN l[a.toNat] l[i] > 0
  ·simp only [hc,decide_true,if_true]
   have Vi:kM l i a:=⟨l[i],l[a.toNat],by simp [hi],by simp [ha.2],sg.1 hc⟩
   refine po _ ⟨q,a :: s,by simp,rfl,fun b hb=>?_⟩ (by simp)
   rcases List.mem_cons.1 hb with rfl | hb
   ·exact Vi
   ·exact QB b hb
  ·simp only [hc,decide_false,Bool.false_eq_true,if_false]
   refine fin fun b hb=>?_
   simp at hb; subst hb
   rintro ⟨x,y,h1,h2,h3⟩
   simp [hi] at h1
   simp [ha.2] at h2
   subst h1; subst h2
   exact hc (sg.2 h3)
theorem uj {F:Nat} {l:List aL} {cl:List Int} (hl:l.length=cl.length) (hb:l.length<1000000) (hF:l.length<F) :
  ∀ n (out:List Int) (k:Int),(∃ j:Nat,k=j∧j≤l.length∧out.length≤j∧out.Pairwise (kM l)∧∀ i,i ∈ out ↔ 0≤i∧i.toNat<j∧counts l cl i.toNat)→(l.length - k.toNat)<n→∃ r,Da F l cl n out k=some r∧Canon l cl r:=by
 refine BF (L:=Da F l cl) (B:=Gg F l cl) (fun _=>rfl) _ (fun (_:List Int) (k:Int)=>l.length - k.toNat) _ ?_
 rintro rec out k ⟨j,rfl,hj,hlen,hs,hm⟩ po
 unfold Gg
 by_cases dN:j<l.length
 ·have d1 : decide ((j : Int) < (l.length : Int)) = true := by simp; exact dN
  have nQ:i64 ((j:Int)+1)=((j+1:Nat):Int):=by rw [cQ (by omega) (by omega)]; rfl
  obtain ⟨b,h1,h2⟩:=yC (F:=F) dN hl hb hF
  simp only [d1,if_true,h1,Option.bind_some]
  cases b with
  | false =>
   simp only [Bool.not_false,if_true]
   have kf:¬ counts l cl j:=fun h=>by simpa using h2.2 h
   rw [nQ]
   refine po _ _ ⟨j+1,rfl,by omega,by omega,hs,fun i=>?_⟩ (by simp; omega)
   rw [hm]
   constructor
   ·rintro ⟨a1,a2,a3⟩; exact ⟨a1,by omega,a3⟩
   ·rintro ⟨a1,a2,a3⟩
    refine ⟨a1,?_,a3⟩
    rcases Nat.lt_succ_iff_lt_or_eq.1 a2 with h | h
    ·exact h
    ·rw [h] at a3; exact absurd a3 kf
  | true =>
   simp only [Bool.not_true,Bool.false_eq_true,if_false]
   have hc:counts l cl j:=h2.1 rfl
   refine GC (cl:=cl) dN (by omega) (fun a ha=>?_) hs ?_ F _ ⟨out,[],by simp,rfl,by simp⟩ (by simp; omega)
   ·have:=(hm a).1 ha; exact ⟨this.1,by omega⟩
   ·rintro p s rfl QB ER
    rw [nQ]
    have ep:∀ a ∈ p++s,a ≠ (j:Int):=fun a ha h=>by have:=(hm a).1 ha; omega
    have tQ:∀ a ∈ p,kM l a j:=by
     intro a ha
     have RN:∀ b,p.getLast?=some b→kM l b j:=fun b hb=>by
      have Qw:b ∈ p++s:=by simp [List.mem_of_getLast? hb]
      have Rv:=(hm b).1 Qw
      have:=oc Rv.2.2 hc (fun h=>by have:=Rv.2.1; omega)
      rw [Int.toNat_of_nonneg Rv.1] at this
      exact this.resolve_right (ER b hb)
     rcases List.eq_nil_or_concat p with rfl | ⟨q,b,rfl⟩
     ·simp at ha
     ·rw [List.concat_eq_append] at *
      have hb:=RN b (by simp)
      rcases List.mem_append.1 ha with ha | ha
      ·have:kM l a b:=by
        rw [List.append_assoc,List.pairwise_append] at hs
        exact hs.2.2 a ha b (by simp)
       exact oD l a b j this hb
      ·simp at ha; subst ha; exact hb
    refine po _ _ ⟨j+1,rfl,by omega,by simp at hlen ⊢; omega,?_,fun i=>?_⟩ (by simp; omega)
    ·rw [List.pairwise_append] at hs ⊢
     refine ⟨hs.1,?_,fun a ha b hb=>?_⟩
     ·rw [List.pairwise_cons]; exact ⟨QB,hs.2.1⟩
     ·rcases List.mem_cons.1 hb with rfl | hb
      ·exact tQ a ha
      ·exact hs.2.2 a ha b hb
    ·have:=hm i
     simp only [List.mem_append,List.mem_cons] at this ⊢
     constructor
     ·rintro (h | h | h)
      ·have:=this.1 (.inl h); exact ⟨this.1,by omega,this.2.2⟩
      ·subst h; exact ⟨by omega,by simp,by simpa using hc⟩
      ·have:=this.1 (.inr h); exact ⟨this.1,by omega,this.2.2⟩
     ·rintro ⟨a1,a2,a3⟩
      by_cases rA:i=(j:Int)
      ·exact .inr (.inl rA)
      ·rcases this.2 ⟨a1,by omega,a3⟩ with h | h
       ·exact .inl h
       ·exact .inr (.inr h)
 ·have d1:decide ((j:Int)<(l.length:Int))=false:=by simp; omega
  simp only [d1,Bool.false_eq_true,if_false]
  have EE:ks l cl out:=⟨hs,fun i=>by
   rw [hm]
   constructor
   ·rintro ⟨a1,_,a3⟩; exact ⟨a1,a3⟩
   ·rintro ⟨a1,a3⟩; exact ⟨a1,by have:=jN a3; omega,a3⟩⟩
  by_cases h3:300<out.length
  ·have:decide ((out.length:Int) > 300)=true:=by simp; omega
   simp only [this,if_true]
   refine ⟨_,rfl,?_⟩
   unfold Canon; rw [if_neg (by omega)]
   exact ⟨out,EE,by rw [if_pos h3]⟩
  ·have:decide ((out.length:Int) > 300)=false:=by simp; omega
   simp only [this,Bool.false_eq_true,if_false]
   refine ⟨_,rfl,?_⟩
   unfold Canon; rw [if_neg (by omega)]
   exact ⟨out,EE,by rw [if_neg h3]⟩
theorem tw {F:Nat} {l:List aL} {cl:List Int} (hb:l.length<1000000) (hF:l.length<F):∃ r,Dg F l cl=some r∧Canon l cl r:=by
 unfold Dg
 by_cases hl:l.length=cl.length
 ·have:((cl.length:Int) != (l.length:Int))=false:=by simp; omega
  simp only [this,Bool.false_eq_true,if_false]
  exact uj hl hb hF F _ _ ⟨0,rfl,by omega,by simp,by simp,fun i=>by simp⟩ (by simpa using hF)
 ·have:((cl.length:Int) != (l.length:Int))=true:=by simp; omega
  simp only [this,if_true]
  exact ⟨_,rfl,by unfold Canon; rw [if_pos hl]⟩
end Go.Sh
namespace Go.Sh
open Go.L
def sat (l:List aL) (i:Int):aL:=l.getD i.toNat default
def cat (cl:List Int) (i:Int):Int:=cl.getD i.toNat 0
def pQ (l:List aL) (i:Int):Prop:=0≤i∧sZ l i.toNat
theorem tL {l:List aL} {i:Int} (h:pQ l i):i.toNat<l.length:=by
 obtain ⟨_,x,h1,_⟩:=h; exact (List.getElem?_eq_some_iff.1 h1).1
theorem nv {l:List aL} {i:Int} (h:pQ l i):idx l i=some (sat l i):=by
 have:=tL h
 rw [jd]; exact ⟨h.1,by simp [sat,this]⟩
theorem zd {l:List aL} {cl:List Int} {i:Int} (h:pQ l i) (hl:l.length=cl.length):idx cl i=some (cat cl i):=by
 have:=tL h
 have:i.toNat<cl.length:=by omega
 rw [jd]; exact ⟨h.1,by simp [cat,this]⟩
theorem kF {l:List aL} {i:Int} (h:pQ l i):l[i.toNat]?=some (sat l i):=by
 have:=tL h; simp [sat,this]
theorem zb {l:List aL} {cl:List Int} {i:Int} (h:pQ l i) (hl:l.length=cl.length):cl[i.toNat]?=some (cat cl i):=by
 have:=tL h
 have:i.toNat<cl.length:=by omega
 simp [cat,this]
def diff (l:List aL) (cl:List Int) (i k:Int):Prop:=sat l i ≠ sat l k ∨ cat cl i ≠ cat cl k
def o7 (l:List aL) (i j:Int):Int:=if dH (sat l i) (sat l j) ≠ 0 then dH (sat l i) (sat l j) else kW i j
theorem kV {l:List aL} {i j:Int}:o7 l i j<0 ↔ ((sat l i).Source<(sat l j).Source ∨ (sat l i).Source=(sat l j).Source∧((sat l i).Seq<(sat l j).Seq ∨ (sat l i).Seq=(sat l j).Seq∧i<j)):=by
 have h1:=@fv (sat l i) (sat l j)
 have h2:=@dP (sat l i) (sat l j)
 have h3:=@o8 i j
 unfold o7; split <;> omega
theorem Cp {F:Nat} (hF:10≤F) {l:List aL} {i j:Int} (hi:pQ l i) (hj:pQ l j):Dp F i j l=some (o7 l i j):=by
 simp only [Dp,nv hi,nv hj,qs hF,na,Option.bind_some]
 rw [Lx (by simp) (by simp; omega)]
 simp only [Option.bind_some,Jg,o7]
 repeat' split
 all_goals simp_all
structure jR (l:List aL) (cl:List Int) (T:List Int) (gs:List ed):Prop where
 first:∀ g ∈ gs,g.first ∈ T
 each:∀ t ∈ T,∃ g ∈ gs,dH (sat l g.first) (sat l t)=0∧g.first≤t
 JO:∀ g ∈ gs,(g.dI=true ↔ ∃ t ∈ T,dH (sat l g.first) (sat l t)=0∧diff l cl g.first t)
 Iy:gs.Pairwise fun g h=>dH (sat l g.first) (sat l h.first)<0
 len:gs.length≤T.length
 last:∀ g,gs.getLast?=some g→∀ t ∈ T,¬ dH (sat l g.first) (sat l t)<0
theorem jR.new {l:List aL} {cl:List Int} {T:List Int} {gs:List ed} {x:Int} (h:jR l cl T gs) (hx:∀ t ∈ T,o7 l t x<0) (hn:∀ g,gs.getLast?=some g→dH (sat l g.first) (sat l x) ≠ 0):jR l cl (T++[x]) (gs++[⟨x,false⟩]):=by
 have dN:∀ g ∈ gs,dH (sat l g.first) (sat l x)<0:=by
  intro g hg
  rcases List.eq_nil_or_concat gs with rfl | ⟨ze,g',rfl⟩
  ·simp at hg
  ·rw [List.concat_eq_append] at *
   have h1:dH (sat l g'.first) (sat l x)<0:=by
    have a1:=hn g' (by simp)
    have a2:=hx g'.first (h.first g' (by simp))
    rw [kV] at a2; rw [fv]; have:=mt (@dP (sat l g'.first) (sat l x)).2 a1; omega
   rcases List.mem_append.1 hg with hg | hg
   ·have:=(List.pairwise_append.1 h.Iy).2.2 g hg g' (by simp)
    rw [fv] at *; omega
   ·simp at hg; subst hg; exact h1
 have Nv:∀ t ∈ T,dH (sat l t) (sat l x)<0:=by
  intro t ht
  obtain ⟨g,hg,h1,_⟩:=h.each t ht
  have h2:=dN g hg
  rw [dP] at h1; rw [fv] at *; omega
 constructor
 ·intro g hg
  rcases List.mem_append.1 hg with hg | hg
  ·simp [h.first g hg]
  ·simp at hg; subst hg; simp
 ·intro t ht
  rcases List.mem_append.1 ht with ht | ht
  ·obtain ⟨g,hg,h1⟩:=h.each t ht; exact ⟨g,by simp [hg],h1⟩
  ·simp at ht; subst ht; exact ⟨⟨t,false⟩,by simp,by simp [dP],Int.le_refl _⟩
 ·intro g vD
  rcases List.mem_append.1 vD with hg | hg
  ·rw [h.JO g hg]
   constructor
   ·rintro ⟨t,ht,h1⟩; exact ⟨t,by simp [ht],h1⟩
   ·rintro ⟨t,ht,h1⟩
    have:=dN g hg
    rcases List.mem_append.1 ht with ht | ht
    ·exact ⟨t,ht,h1⟩
    ·simp at ht; rw [ht] at h1; omega
  ·simp at hg; subst hg
   simp only [Bool.false_eq_true,false_iff]
   rintro ⟨t,ht,h1,h2⟩
   rcases List.mem_append.1 ht with ht | ht
   ·have:=Nv t ht; rw [dP] at h1; rw [fv] at this; omega
   ·simp at ht; subst ht; rcases h2 with h2 | h2 <;> exact h2 rfl
 ·rw [List.pairwise_append]; exact ⟨h.Iy,by simp,fun g hg g' sA=>by simp at sA; subst sA; exact dN g hg⟩
 ·simp; exact h.len
 ·intro g hg t ht
  simp at hg; subst hg
  show ¬ dH (sat l x) (sat l t)<0
  rcases List.mem_append.1 ht with ht | ht
  ·have:=Nv t ht; rw [fv] at *; omega
  ·simp at ht; subst ht; rw [fv]; omega
theorem jR.Ti {l:List aL} {cl:List Int} {T:List Int} {gs:List ed} {g:ed} {x:Int} {b:Bool} (h:jR l cl T (gs++[g])) (hx:∀ t ∈ T,o7 l t x<0) (he:dH (sat l g.first) (sat l x)=0) (hb:b=true ↔ g.dI=true ∨ diff l cl g.first x):jR l cl (T++[x]) (gs++[⟨g.first,b⟩]):=by
 have RI:g.first≤x:=by
  have:=hx g.first (h.first g (by simp))
  rw [kV] at this; rw [dP] at he; omega
 have dN:∀ k ∈ gs,dH (sat l k.first) (sat l x)<0:=fun k hk=>by
  have:=(List.pairwise_append.1 h.Iy).2.2 k hk g (by simp)
  rw [dP] at he; rw [fv] at *; omega
 constructor
 ·intro k hk
  rcases List.mem_append.1 hk with hk | hk
  ·simp [h.first k (by simp [hk])]
  ·simp at hk; subst hk; simp [h.first g (by simp)]
 ·intro t ht
  rcases List.mem_append.1 ht with ht | ht
  ·obtain ⟨k,hk,h1⟩:=h.each t ht
   rcases List.mem_append.1 hk with hk | hk
   ·exact ⟨k,by simp [hk],h1⟩
   ·simp at hk; subst hk; exact ⟨⟨k.first,b⟩,by simp,h1⟩
  ·simp at ht; subst ht; exact ⟨⟨g.first,b⟩,by simp,he,RI⟩
 ·intro k hk
  rcases List.mem_append.1 hk with hk | hk
  ·rw [h.JO k (by simp [hk])]
   constructor
   ·rintro ⟨t,ht,h1⟩; exact ⟨t,by simp [ht],h1⟩
   ·rintro ⟨t,ht,h1⟩
    rcases List.mem_append.1 ht with ht | ht
    ·exact ⟨t,ht,h1⟩
    ·simp at ht; subst ht; have:=dN k hk; omega
  ·simp at hk; subst hk
   show b=true ↔ _
   rw [hb,h.JO g (by simp)]
   constructor
   ·rintro (⟨t,ht,h1⟩ | h1)
    ·exact ⟨t,by simp [ht],h1⟩
    ·exact ⟨x,by simp,he,h1⟩
   ·rintro ⟨t,ht,h1,h2⟩
    rcases List.mem_append.1 ht with ht | ht
    ·exact .inl ⟨t,ht,h1,h2⟩
    ·simp at ht; subst ht; exact .inr h2
 ·have:=h.Iy
  rw [List.pairwise_append] at this ⊢
  exact ⟨this.1,by simp,fun k hk g' sA=>by simp at sA; subst sA; exact this.2.2 k hk g (by simp)⟩
 ·have:=h.len; simp at this ⊢; omega
 ·intro k hk t ht
  simp at hk; subst hk
  rcases List.mem_append.1 ht with ht | ht
  ·exact h.last g (by simp) t ht
  ·simp at ht; subst ht; show ¬ dH (sat l g.first) _<0; omega
theorem wZ {F:Nat} (hF:10≤F) {l:List aL} {cl:List Int} (hl:l.length=cl.length) (hb:l.length<1000000) {S:List Int} (hS:S.Pairwise fun a b=>o7 l a b<0) (hv:∀ i ∈ S,pQ l i) (Ro:S.length≤l.length) :
  ∀ n (k:Int) (gs:List ed),(∃ T U,S=T++U∧k=(T.length:Int)∧jR l cl T gs)→(S.length - k.toNat)<n→∃ r,Dk F l cl S n k gs=some r∧jR l cl S r:=by
 refine BF (L:=Dk F l cl S) (B:=Gx F l cl S) (fun _=>rfl) _ (fun (k:Int) (_:List ed)=>S.length - k.toNat) _ ?_
 rintro rec k gs ⟨T,U,Ha,rfl,hG⟩ po
 unfold Gx
 cases U with
 | nil =>
  have d1:decide ((T.length:Int)<(S.length:Int))=false:=by subst Ha; simp
  simp only [d1,Bool.false_eq_true,if_false]
  refine ⟨gs,rfl,?_⟩
  subst Ha; simpa using hG
 | cons x U =>
  have d1:decide ((T.length:Int)<(S.length:Int))=true:=by subst Ha; exact Hn T x U
  have Hc:idx S (T.length:Int)=some x:=by subst Ha; exact jq T x U
  have Wn:T.length<1000000:=by have:=congrArg List.length Ha; simp at this; omega
  have hx:∀ t ∈ T,o7 l t x<0:=fun t ht=>by
   rw [Ha] at hS; exact (List.pairwise_append.1 hS).2.2 t ht x (by simp)
  have vx:pQ l x:=hv x (by rw [Ha]; simp)
  have II:∀ ze,jR l cl (T++[x]) ze→∃ r,rec (i64 ((T.length:Int)+1)) ze=some r∧jR l cl S r:=fun ze sA=>by
   rw [Lj T x (by omega)]
   refine po _ _ ⟨T++[x],U,by simp [Ha],rfl,sA⟩ ?_
   have:=congrArg List.length Ha
   simp at this ⊢; omega
  simp only [d1,if_true,Hc,Option.bind_some]
  have MW:gs.length≤T.length:=hG.len
  rcases List.eq_nil_or_concat gs with rfl | ⟨ze,g,rfl⟩
  ·have:decide (i64 ((([]:List ed).length:Int) - 1)<0)=true:=by rw [cQ (by simp) (by simp)]; simp
   simp only [this,if_true,Option.bind_some]
   rw [c8 (by simp)]
   exact II _ (hG.new hx (by simp))
  ·rw [List.concat_eq_append] at *
   simp only [List.length_append,List.length_singleton] at MW
   have hw:i64 (((ze++[g]).length:Int) - 1)=(ze.length:Int):=by
    simp only [List.length_append,List.length_singleton]
    rw [cQ (by omega) (by omega)]; omega
   have RI:idx (ze++[g]) (ze.length:Int)=some g:=jq ze g []
   have Kr:decide ((ze.length:Int)<0)=false:=by simp
   have vg:pQ l g.first:=hv _ (by rw [Ha]; simp [hG.first g (by simp)])
   have JV:app (ze++[g]) [ed.mk x false]=some (ze++[g]++[ed.mk x false]):=c8 (by simp; omega)
   simp only [hw,Kr,RI,nv vg,nv vx,zd vg hl,zd vx hl,qs hF,Bool.false_eq_true,if_false,Option.bind_some,bne_iff_ne,ne_eq,JV]
   by_cases he:dH (sat l g.first) (sat l x)=0
   ·simp only [he,not_true_eq_false,if_false,Bool.not_eq_eq_eq_not,Bool.not_true,decide_eq_false_iff_not]
    have iE:(ze++[g]).set ((ze.length:Int)).toNat (ed.mk g.first true)=ze++[ed.mk g.first true]:=by simp
    by_cases hd:sat l g.first=sat l x
    ·simp only [hd,not_true_eq_false,if_false,Option.bind_some,bne_iff_ne,ne_eq]
     by_cases hc:cat cl g.first=cat cl x
     ·simp only [hc,not_true_eq_false,if_false]
      have:=hG.Ti (b:=g.dI) hx he ⟨.inl,fun h=>h.elim id fun h=>(h.elim (fun h=>absurd hd h) fun h=>absurd hc h)⟩
      exact II _ this
     ·simp only [hc,not_false_eq_true,if_true,iE]
      exact II _ (hG.Ti (b:=true) hx he ⟨fun _=>.inr (.inr hc),fun _=>rfl⟩)
    ·simp only [hd,not_false_eq_true,if_true,Option.bind_some,iE]
     exact II _ (hG.Ti (b:=true) hx he ⟨fun _=>.inr (.inl hd),fun _=>rfl⟩)
   ·simp only [he,not_false_eq_true,if_true]
    exact II _ (hG.new hx (by simpa using he))
theorem vy {F:Nat} (hF:10≤F) {l:List aL} {cl:List Int} (hl:l.length=cl.length) (hb:l.length<1000000) (G9:l.length<F) :
  ∀ n (k:Int) (acc:List Int),(∃ j:Nat,k=j∧j≤l.length∧acc.length≤j∧acc.Pairwise (·<·)∧∀ i,i ∈ acc ↔ pQ l i∧i<j)→(l.length - k.toNat)<n →
   ∃ r,Dj F l cl n k acc=some r∧∃ S,(∀ i,i ∈ S ↔ pQ l i)∧S.length≤l.length∧jR l cl S r:=by
 refine BF (L:=Dj F l cl) (B:=Gw F l cl) (fun _=>rfl) _ (fun (k:Int) (_:List Int)=>l.length - k.toNat) _ ?_
 rintro rec k acc ⟨j,rfl,hj,hlen,hs,hm⟩ po
 unfold Gw
 by_cases dN:j<l.length
 ·have d1:decide ((j:Int)<(l.length:Int))=true:=by simp; exact dN
  have nQ:i64 ((j:Int)+1)=((j+1:Nat):Int):=by rw [cQ (by omega) (by omega)]; rfl
  simp only [d1,if_true,dx dN,Ip,Option.bind_some]
  by_cases hg:l[j].pZ=true
  ·simp only [hg,if_true]
   rw [c8 (by simp; omega)]
   simp only [Option.bind_some,nQ]
   refine po _ _ ⟨j+1,rfl,by omega,by simp; omega,?_,fun i=>?_⟩ (by simp; omega)
   ·rw [List.pairwise_append]; exact ⟨hs,by simp,fun a ha b hb=>by simp at hb; subst hb; exact ((hm a).1 ha).2⟩
   ·simp only [List.mem_append,List.mem_singleton,hm]
    constructor
    ·rintro (⟨h1,h2⟩ | rfl)
     ·exact ⟨h1,by omega⟩
     ·exact ⟨⟨by omega,by simpa using (np dN).2 hg⟩,by omega⟩
    ·rintro ⟨h1,h2⟩
     by_cases h:i=(j:Int)
     ·exact .inr h
     ·exact .inl ⟨h1,by omega⟩
  ·simp only [bF hg,Bool.false_eq_true,if_false,nQ]
   refine po _ _ ⟨j+1,rfl,by omega,by omega,hs,fun i=>?_⟩ (by simp; omega)
   rw [hm]
   constructor
   ·rintro ⟨h1,h2⟩; exact ⟨h1,by omega⟩
   ·rintro ⟨h1,h2⟩
    refine ⟨h1,?_⟩
    by_cases h:i=(j:Int)
    ·subst h; exact absurd ((np dN).1 (by simpa using h1.2)) hg
    ·omega
 ·have d1:decide ((j:Int)<(l.length:Int))=false:=by simp; omega
  simp only [d1,Bool.false_eq_true,if_false]
  have hv:∀ i,i ∈ acc ↔ pQ l i:=fun i=>by
   rw [hm]
   constructor
   ·exact fun h=>h.1
   ·intro h; refine ⟨h,?_⟩; have:=tL h; have:=h.1; omega
  obtain ⟨S,h1,h2,h3⟩:=yN (c:=fun a0 a1=>Dp F a0 a1 l) (xs:=acc) (o7 l) (by omega) (fun x hx y hy=>Cp hF ((hv x).1 hx) ((hv y).1 hy)) (fun x _=>by rw [kV]; omega)
   (fun x _ y _ z _ a b=>by rw [kV] at *; omega) (fun x _ y _ z _ a b=>by rw [kV] at *; omega) (hs.imp fun {a b} h=>by simp only [kV]; omega)
  simp only [h1,Option.bind_some]
  have TN:∀ i,i ∈ S ↔ pQ l i:=fun i=>by rw [h2.mem_iff,hv]
  have Ro:S.length≤l.length:=by rw [h2.length_eq]; omega
  obtain ⟨r,h4,h5⟩:=wZ hF hl hb h3 (fun i hi=>(TN i).1 hi) Ro F 0 [] ⟨[],S,rfl,rfl,⟨by simp,by simp,by simp,by simp,by simp,by simp⟩⟩ (by simp; omega)
  exact ⟨r,h4,S,TN,Ro,h5⟩
structure pS (l:List aL) (cl:List Int) (gs:List ed):Prop where
 first:∀ g ∈ gs,pQ l g.first
 each:∀ t,pQ l t→∃ g ∈ gs,dH (sat l g.first) (sat l t)=0∧g.first≤t
 JO:∀ g ∈ gs,(g.dI=true ↔ ∃ t,pQ l t∧dH (sat l g.first) (sat l t)=0∧diff l cl g.first t)
 Iy:gs.Pairwise fun g h=>dH (sat l g.first) (sat l h.first)<0
 len:gs.length≤l.length
theorem EA {F:Nat} (hF:10≤F) {l:List aL} {cl:List Int} (hl:l.length=cl.length) (hb:l.length<1000000) (G9:l.length<F):∃ gs,BY F l cl=some gs∧pS l cl gs:=by
 obtain ⟨r,h1,S,h2,h3,h4⟩:=vy hF hl hb G9 F 0 [] ⟨0,rfl,by omega,by simp,by simp,fun i=>by simp [pQ]; omega⟩ (by simpa using G9)
 refine ⟨r,h1,fun g hg=>(h2 _).1 (h4.first g hg),fun t ht=>h4.each t ((h2 t).2 ht),fun g hg=>?_,h4.Iy,Nat.le_trans h4.len h3⟩
 rw [h4.JO g hg]
 simp only [h2]
end Go.Sh
namespace Go.Sh
open Go.L
theorem zI {l:List aL} {cl:List Int} {gs:List ed} (hl:l.length=cl.length) (hG:pS l cl gs) (i:Int):(0≤i∧counts l cl i.toNat) ↔ ∃ g ∈ gs,g.dI=false∧g.first=i:=by
 have IG:∀ a b:Int,pQ l a→pQ l b→(tY l cl a.toNat b.toNat ↔ dH (sat l a) (sat l b)=0∧((sat l a).Time ≠ (sat l b).Time ∨ cat cl a ≠ cat cl b)):=fun a b ha hb=>by
  unfold tY Hh
  rw [dP,kF ha,kF hb,zb ha hl,zb hb hl]
  simp only [Option.some.injEq]
  constructor
  ·rintro ⟨x,y,c,d,rfl,rfl,rfl,rfl,h⟩; exact h
  ·intro h; exact ⟨_,_,_,_,rfl,rfl,rfl,rfl,h⟩
 have heq:∀ x y:aL,dH x y=0→(x=y ↔ x.Time=y.Time):=fun x y h=>by
  rw [dP] at h
  cases x; cases y; simp at h ⊢; simp [h]
 constructor
 ·rintro ⟨h0,hc⟩
  have hv:pQ l i:=⟨h0,hc.1⟩
  obtain ⟨g,hg,h1,h2⟩:=hG.each i hv
  have vg:=hG.first g hg
  have hnd:∀ t,pQ l t→¬ (dH (sat l i) (sat l t)=0∧((sat l i).Time ≠ (sat l t).Time ∨ cat cl i ≠ cat cl t)):=fun t ht h=>(hc.2 t.toNat ht.2).1 ((IG i t hv ht).2 h)
  have UN:dH (sat l i) (sat l g.first)=0:=by rw [dP] at *; omega
  have QA:g.first=i:=by
   by_cases dN:g.first<i
   ·have a1:=hnd _ vg
    have a2:sat l g.first=sat l i:=(heq _ _ h1).2 (Decidable.byContradiction fun ep=>a1 ⟨UN,.inl fun h=>ep h.symm⟩)
    have a3:=(hc.2 g.first.toNat vg.2).2 (by have:=vg.1; omega)
    rw [kF vg,kF hv,a2] at a3
    exact absurd rfl a3
   ·omega
  refine ⟨g,hg,?_,QA⟩
  cases hd:g.dI with
  | false=>rfl
  | true =>
   obtain ⟨t,ht,b1,b2⟩:=(hG.JO g hg).1 hd
   rw [QA] at b1 b2
   refine absurd ?_ (hnd t ht)
   refine ⟨b1,?_⟩
   rcases b2 with b2 | b2
   ·exact .inl fun h=>b2 ((heq _ _ b1).2 h)
   ·exact .inr b2
 ·rintro ⟨g,hg,hd,rfl⟩
  have vg:=hG.first g hg
  refine ⟨vg.1,vg.2,fun k hk=>?_⟩
  have vk:pQ l (k:Int):=⟨by omega,by simpa using hk⟩
  constructor
  ·intro h
   have h':=(IG g.first k vg vk).1 (by simpa using h)
   have:g.dI=true:=(hG.JO g hg).2 ⟨k,vk,h'.1,by
    rcases h'.2 with h | h
    ·exact .inl fun he=>h (by rw [he])
    ·exact .inr h⟩
   rw [hd] at this; cases this
  ·intro dN he
   have z6:sat l k=sat l g.first:=by
    have:=kF vk
    simp only [Int.toNat_natCast] at this
    rw [this,kF vg] at he; exact Option.some.inj he
   obtain ⟨g',sA,h1,h2⟩:=hG.each k vk
   have Vf:dH (sat l g'.first) (sat l g.first)=0:=by rw [← z6]; exact h1
   have:g'=g:=by
    by_cases h:g'=g
    ·exact h
    ·have ha:=hG.Iy
     have:dH (sat l g'.first) (sat l g.first)<0 ∨ dH (sat l g.first) (sat l g'.first)<0:=by
      obtain ⟨a,Qv⟩:=List.mem_iff_getElem.1 sA
      obtain ⟨b,hT⟩:=List.mem_iff_getElem.1 hg
      rw [List.pairwise_iff_getElem] at ha
      obtain ⟨la,rfl⟩:=Qv
      obtain ⟨lb,rfl⟩:=hT
      rcases Nat.lt_trichotomy a b with h3 | h3 | h3
      ·exact .inl (ha a b la lb h3)
      ·subst h3; exact absurd rfl h
      ·exact .inr (ha b a lb la h3)
     rw [dP] at Vf; rw [fv,fv] at this; omega
   subst this
   have:=vg.1; omega
theorem El {F:Nat} (hF:10≤F) {l:List aL} {i j:Int} (hi:pQ l i) (hj:pQ l j):De F i j l=some (gN (sat l i) (sat l j)):=by
 simp only [De,nv hi,nv hj,tJ hF,Option.bind_some]
def hJ (gs:List ed):List Int:=(gs.filter fun g=>!g.dI).map (·.first)
theorem zO (gs:List ed):(hJ gs).length≤gs.length:=by
 unfold hJ; rw [List.length_map]; exact List.length_filter_le _ _
theorem sd {F:Nat} (hF:10≤F) {l:List aL} {cl:List Int} (hl:l.length=cl.length) (hb:l.length<1000000) {gs:List ed} (hG:pS l cl gs) :
  ∀ n (k:Int) (acc:List Int),(∃ p s,gs=p++s∧k=(p.length:Int)∧acc=hJ p)→(gs.length - k.toNat)<n→∃ r,Dc F l gs n k acc=some r∧Canon l cl r:=by
 refine BF (L:=Dc F l gs) (B:=Gl F l gs) (fun _=>rfl) _ (fun (k:Int) (_:List Int)=>gs.length - k.toNat) _ ?_
 rintro rec k acc ⟨p,s,rf,rfl,rfl⟩ po
 unfold Gl
 have MW:=hG.len
 have tQ:p.length≤gs.length:=by rw [rf]; simp
 have Cz:=zO p
 cases s with
 | cons g s =>
  have d1:decide ((p.length:Int)<(gs.length:Int))=true:=by rw [rf]; exact Hn p g s
  have Hc:idx gs (p.length:Int)=some g:=by rw [rf]; exact jq p g s
  have hm:gs.length - ((p++[g]).length:Int).toNat<gs.length - (p.length:Int).toNat:=by
   have:=congrArg List.length rf; simp at this ⊢; omega
  simp only [d1,if_true,Hc,Option.bind_some,Lj p g (by omega)]
  cases hd:g.dI with
  | false =>
   simp only [Bool.not_false,if_true]
   rw [c8 (by simp; omega)]
   exact po _ _ ⟨p++[g],s,by simp [rf],rfl,by simp [hJ,hd]⟩ hm
  | true =>
   simp only [Bool.not_true,Bool.false_eq_true,if_false]
   exact po _ _ ⟨p++[g],s,by simp [rf],rfl,by simp [hJ,hd]⟩ hm
 | nil =>
  have Kv:gs=p:=by simpa using rf
  subst Kv
  have d1:decide ((gs.length:Int)<(gs.length:Int))=false:=by simp
  simp only [d1,Bool.false_eq_true,if_false]
  have gu:∀ i,i ∈ hJ gs ↔ 0≤i∧counts l cl i.toNat:=fun i=>by
   rw [zI hl hG]
   simp only [hJ,List.mem_map,List.mem_filter,Bool.not_eq_eq_eq_not,Bool.not_true]
   constructor
   ·rintro ⟨g,⟨h1,h2⟩,h3⟩; exact ⟨g,h1,h2,h3⟩
   ·rintro ⟨g,h1,h2,h3⟩; exact ⟨g,⟨h1,h2⟩,h3⟩
  have xp:∀ i ∈ hJ gs,pQ l i:=fun i hi=>by have:=(gu i).1 hi; exact ⟨this.1,this.2.1⟩
  have hnd:(hJ gs).Pairwise fun a b=>a ≠ b:=by
   unfold hJ
   rw [List.pairwise_map]
   refine (hG.Iy.filter _).imp fun {a b} h he=>?_
   rw [he,fv] at h; omega
  have dN:∀ i j,pQ l i→pQ l j→(gN (sat l i) (sat l j)<0 ↔ kM l i j):=fun i j hi hj=>by
   unfold kM; rw [kF hi,kF hj]
   constructor
   ·intro h; exact ⟨_,_,rfl,rfl,h⟩
   ·rintro ⟨x,y,h1,h2,h3⟩; cases h1; cases h2; exact h3
  obtain ⟨a,h1,h2,h3⟩:=yN (c:=fun a0 a1=>De F a0 a1 l) (xs:=hJ gs) (fun i j=>gN (sat l i) (sat l j)) (by omega) (fun x hx y hy=>El hF (xp x hx) (xp y hy)) (fun x _=>by rw [hD]; omega)
   (fun x _ y _ z _ p q=>by rw [hD] at *; omega) (fun x _ y _ z _ p q=>by rw [hD] at *; omega) (List.Pairwise.imp_of_mem (fun {x y} hx hy ep=>by
    have cx:=(gu x).1 hx
    have cy:=(gu y).1 hy
    have:=oc cx.2 cy.2 (fun h=>ep (by omega))
    rw [Int.toNat_of_nonneg cx.1,Int.toNat_of_nonneg cy.1,← dN x y (xp x hx) (xp y hy),← dN y x (xp y hy) (xp x hx)] at this
    exact this) hnd)
  have EE:ks l cl a:=⟨List.Pairwise.imp_of_mem (fun {x y} hx hy h=>(dN x y (xp x (h2.mem_iff.1 hx)) (xp y (h2.mem_iff.1 hy))).1 h) h3,fun i=>by rw [h2.mem_iff]; exact gu i⟩
  have hlen:(hJ gs).length=a.length:=h2.length_eq.symm
  by_cases MG:300<a.length
  ·have:decide (((hJ gs).length:Int) > 300)=true:=by simp; omega
   simp only [this,if_true]
   refine ⟨_,rfl,?_⟩
   unfold Canon; rw [if_neg (by omega)]
   exact ⟨a,EE,by rw [if_pos MG]⟩
  ·have:decide (((hJ gs).length:Int) > 300)=false:=by simp; omega
   simp only [this,Bool.false_eq_true,if_false,h1,Option.bind_some]
   refine ⟨_,rfl,?_⟩
   unfold Canon; rw [if_neg (by omega)]
   exact ⟨a,EE,by rw [if_neg MG]⟩
theorem wR {F:Nat} (hF:10≤F) {l:List aL} {cl:List Int} (hb:l.length<1000000) (G9:l.length<F):∃ r,Di F l cl=some r∧Canon l cl r:=by
 unfold Di
 by_cases hl:l.length=cl.length
 ·have:((l.length:Int) != (cl.length:Int))=false:=by simp; omega
  simp only [this,Bool.false_eq_true,if_false]
  obtain ⟨gs,h1,h2⟩:=EA hF hl hb G9
  simp only [h1,Option.bind_some]
  have:=h2.len
  exact sd hF hl hb h2 F 0 [] ⟨[],gs,rfl,rfl,rfl⟩ (by simp; omega)
 ·have:((l.length:Int) != (cl.length:Int))=true:=by simp; omega
  simp only [this,if_true]
  exact ⟨_,rfl,by unfold Canon; rw [if_pos hl]⟩
end Go.Sh
namespace Go.Sh
open Go.L
def okB (l:List aL) (i:Nat):Bool:=match l[i]? with | some x=>x.pZ | .none=>false
theorem vN {l:List aL} {i:Nat}:okB l i=true ↔ sZ l i:=by
 unfold okB sZ; cases l[i]? <;> simp
def Bn (l:List aL) (cl:List Int) (i k:Nat):Bool:=match l[i]?,l[k]?,cl[i]?,cl[k]? with
 | some x,some y,some c,some d=>decide (x.Source=y.Source) && decide (x.Seq=y.Seq) && (decide (x.Time ≠ y.Time) || decide (c ≠ d))
 | _,_,_,_=>false
theorem uy {l:List aL} {cl:List Int} {i k:Nat}:Bn l cl i k=true ↔ tY l cl i k:=by
 unfold Bn tY Hh
 cases l[i]? with
 | none=>simp
 | some x=>cases l[k]? with
  | none=>simp
  | some y=>cases cl[i]? with
   | none=>simp
   | some c=>cases cl[k]? with
    | none=>simp
    | some d=>simp [and_assoc]
def nb (l:List aL) (cl:List Int) (i:Nat):Bool:=okB l i && (List.range l.length).all fun k=>!okB l k || (!Bn l cl i k && (!decide (k<i) || decide (l[k]? ≠ l[i]?)))
theorem qt {l:List aL} {cl:List Int} {i:Nat}:nb l cl i=true ↔ counts l cl i:=by
 unfold nb counts
 simp only [Bool.and_eq_true,vN,List.all_eq_true,List.mem_range,Bool.or_eq_true,Bool.not_eq_true',decide_eq_true_eq,decide_eq_false_iff_not]
 constructor
 ·rintro ⟨h1,h2⟩
  refine ⟨h1,fun k hk=>?_⟩
  have Hd:k<l.length:=by
   by_cases h:k<l.length
   ·exact h
   ·exact absurd hk (BK (by omega))
  rcases h2 k Hd with h | ⟨h3,h4⟩
  ·have:=vN.2 hk; rw [h] at this; cases this
  ·refine ⟨fun h=>?_,fun h=>h4.resolve_left (by omega)⟩
   have:=uy.2 h; rw [h3] at this; cases this
 ·rintro ⟨h1,h2⟩
  refine ⟨h1,fun k hk=>?_⟩
  cases gv:okB l k with
  | false=>exact .inl rfl
  | true =>
   right
   have:=h2 k (vN.1 gv)
   refine ⟨?_,?_⟩
   ·cases hd:Bn l cl i k with
    | false=>rfl
    | true=>exact absurd (uy.1 hd) this.1
   ·by_cases h:k<i
    ·exact .inr (this.2 h)
    ·exact .inl h
def QK (l:List aL) (a b:Int):Bool:=match l[a.toNat]?,l[b.toNat]? with
 | some x,some y=>decide (gN x y<0)
 | _,_=>false
theorem rD {l:List aL} {a b:Int}:QK l a b=true ↔ kM l a b:=by
 unfold QK kM
 cases l[a.toNat]? with
 | none=>simp
 | some x=>cases l[b.toNat]? with
  | none=>simp
  | some y=>simp
def jm (l:List aL) (cl:List Int):List Int:=pA (QK l) (((List.range l.length).filter (nb l cl)).map Int.ofNat)
theorem mZ (l:List aL) (cl:List Int):ks l cl (jm l cl):=by
 have gu:∀ i,i ∈ ((List.range l.length).filter (nb l cl)).map Int.ofNat ↔ 0≤i∧counts l cl i.toNat:=fun i=>by
  simp only [List.mem_map,List.mem_filter,List.mem_range,qt]
  constructor
  ·rintro ⟨k,⟨h1,h2⟩,rfl⟩; exact ⟨by simp,by simpa using h2⟩
  ·rintro ⟨h1,h2⟩; exact ⟨i.toNat,⟨jN h2,h2⟩,by simp; omega⟩
 constructor
 ·have:=lC (lt:=QK l) (l:=((List.range l.length).filter (nb l cl)).map Int.ofNat) (fun a _ b _ c _ h1 h2=>by rw [rD] at *; exact oD l a b c h1 h2) (by
   rw [List.pairwise_map]
   refine List.Pairwise.imp_of_mem (fun {a b} ha hb pd=>?_) ((List.pairwise_lt_range (n:=l.length)).filter _)
   rw [rD,rD]
   simp only [List.mem_filter,qt] at ha hb
   exact oc ha.2 hb.2 (by omega))
  exact this.imp fun h=>rD.1 h
 ·intro i
  rw [jm,gH.mem_iff]; exact gu i
def ob (l:List aL) (cl:List Int):List Int × Int:=if l.length ≠ cl.length then ([],1) else if 300<(jm l cl).length then ([],3) else (jm l cl,0)
theorem uw (l:List aL) (cl:List Int):Canon l cl (ob l cl):=by
 unfold Canon ob
 split
 ·rfl
 ·exact ⟨jm l cl,mZ l cl,rfl⟩
theorem wQ {F:Nat} (hF:10≤F) {l:List aL} {cl:List Int} (hb:l.length<1000000) (G9:l.length<F):Di F l cl=some (ob l cl):=by
 obtain ⟨r,h1,h2⟩:=wR hF (cl:=cl) hb G9
 rw [h1,h2.unique (uw l cl)]
theorem tu {F:Nat} {l:List aL} {cl:List Int} (hb:l.length<1000000) (G9:l.length<F):Dg F l cl=some (ob l cl):=by
 obtain ⟨r,h1,h2⟩:=tw (cl:=cl) hb G9
 rw [h1,h2.unique (uw l cl)]
structure Tp (t:aN):Prop where
 len:t.L.length≤600
 lo:0≤t.At
 hi:t.At≤600
theorem O2 (l:List Int):∃ t,k9 l=some t∧Tp t:=by
 unfold k9
 by_cases h:(l.length:Int) > 600
 ·simp only [h,decide_true,if_true]
  rw [show (600:Int)=((600:Nat):Int) from rfl,yM (by omega)]
  exact ⟨_,rfl,⟨by simp; omega,by simp,by simp⟩⟩
 ·simp only [h,decide_false,Bool.false_eq_true,if_false]
  exact ⟨_,rfl,⟨by simp; omega,by simp,by simp⟩⟩
theorem PV {t:aN} (h:Tp t):∃ x t',Ec t=some (x,t')∧Tp t':=by
 have h1:=h.len; have h2:=h.lo; have h3:=h.hi
 unfold Ec
 by_cases hc:t.At ≥ (t.L.length:Int)
 ·simp only [hc,decide_true,if_true]; exact ⟨_,_,rfl,h⟩
 ·simp only [hc,decide_false,Bool.false_eq_true,if_false]
  rw [cQ (n:=t.At+1) (by omega) (by omega),cQ (by omega) (by omega)]
  have hx:idx t.L (t.At+1 - 1)=some t.L[t.At.toNat]:=by
   rw [jd,show t.At+1 - 1=t.At by omega]
   exact ⟨h2,by simp⟩
  rw [hx]
  exact ⟨_,_,rfl,⟨h1,by simp; omega,by simp; omega⟩⟩
theorem Bm (x n:Int) (hn:n≤1000000000):∃ r,fS x n=some r∧0≤r∧(1≤n→r<n)∧(n<1→r=0):=by
 unfold fS
 by_cases h:n<1
 ·simp only [h,decide_true,if_true]; exact ⟨0,rfl,by omega,by omega,by omega⟩
 ·simp only [h,decide_false,Bool.false_eq_true,if_false]
  have hr:PZ x n=some (x.tmod n):=by unfold PZ; rw [if_neg (by omega)]
  simp only [hr,Option.bind_some]
  have b1:x.tmod n<n:=Int.tmod_lt_of_pos x (by omega)
  have b2:-n<x.tmod n:=by
   have:=Int.lt_tmod_of_pos x (show 0<n by omega)
   omega
  by_cases h0:x.tmod n<0
  ·simp only [h0,decide_true,if_true]
   rw [cQ (by omega) (by omega)]
   exact ⟨_,rfl,by omega,fun _=>by omega,fun hh=>hh.elim⟩
  ·simp only [h0,decide_false,Bool.false_eq_true,if_false]
   exact ⟨_,rfl,by omega,fun _=>by omega,fun hh=>hh.elim⟩
theorem sV {t:aN} (h:Tp t) (n:Int) (hn:n≤1000000000):∃ x t',iS t n=some (x,t')∧Tp t'∧0≤x∧(1≤n→x<n)∧(n<1→x=0):=by
 obtain ⟨x,t',h1,h2⟩:=PV h
 obtain ⟨r,h3,h4⟩:=Bm x n hn
 exact ⟨r,t',by simp [iS,h1,h3],h2,h4⟩
theorem rH {t:aN} (h:Tp t) (a b:Int) (ha:-1000≤a) (pd:a≤b) (hb:b≤100000000):∃ x t',kH t a b=some (x,t')∧Tp t'∧a≤x∧x≤b:=by
 obtain ⟨x,t',h1,h2,h3,h4,_⟩:=sV h (b - a+1) (by omega)
 refine ⟨a+x,t',?_,h2,by omega,by have:=h4 (by omega); omega⟩
 have:=h4 (by omega)
 simp only [kH]
 rw [cQ (n:=b - a) (by omega) (by omega),cQ (n:=b - a+1) (by omega) (by omega),h1]
 simp only [Option.bind_some]
 rw [cQ (by omega) (by omega)]
theorem Jf {t:aN} (h:Tp t) (n:Int) (hn:n≤1000000000):∃ b t',nW t n=some (b,t')∧Tp t':=by
 obtain ⟨x,t',h1,h2,_⟩:=sV h n hn
 exact ⟨(x == i64 (n - 1)),t',by simp only [nW,h1,Option.bind_some],h2⟩
theorem FY {t:aN} (h:Tp t) (l:List Int) (hl:1≤l.length) (DM:l.length≤1000):∃ x t',tX t l=some (x,t')∧Tp t'∧x ∈ l:=by
 obtain ⟨x,t',h1,h2,h3,h4,_⟩:=sV h l.length (by omega)
 have:=h4 (by omega)
 have hx:idx l x=some l[x.toNat]:=by rw [jd]; exact ⟨h3,by simp⟩
 exact ⟨l[x.toNat],t',by simp only [tX,h1,Option.bind_some,hx],h2,by simp⟩
theorem G1 {t:aN} (h:Tp t):∃ x t',rP t=some (x,t')∧Tp t':=by
 obtain ⟨x,t',h1,h2,_⟩:=FY h [(-1),0,1,2,31,32,99,100,200,201,9999,10000,1000000,1000001,1152921504606846976,1152921504606846977,(-1152921504606846976),9223372036854775807,(-9223372036854775808)] (by simp) (by simp)
 exact ⟨x,t',by simp only [rP,h1,Option.bind_some],h2⟩
theorem GR {t:aN} (h:Tp t):Tp (aN.mk t.L t.At):=h
theorem GS {t:aN} (h:Tp t) (n:Int) (hn:n≤1000000):∃ x t',B9 t n=some (x,t')∧Tp t':=by
 obtain ⟨a,t1,a1,a2,_⟩:=rH h 0 24 (by omega) (by omega) (by omega)
 obtain ⟨b,t2,b1,b2,_⟩:=rH a2 0 3 (by omega) (by omega) (by omega)
 obtain ⟨c,t3,c1,c2,_⟩:=rH b2 0 9 (by omega) (by omega) (by omega)
 simp only [B9,a1,b1,c1,Option.bind_some]
 by_cases hp:n > 0
 ·obtain ⟨d,t4,d1,d2⟩:=Jf c2 n (by omega)
  simp only [hp,decide_true,if_true,d1,Option.bind_some]
  cases d with
  | false=>exact ⟨_,_,rfl,GR d2⟩
  | true =>
   obtain ⟨e,t5,e1,e2,_⟩:=sV (GR d2) 3 (by omega)
   obtain ⟨w,t6,w1,w2⟩:=G1 e2
   simp only [if_true,e1,w1,Option.bind_some]
   split
   ·exact ⟨_,_,rfl,w2⟩
   ·split
    ·exact ⟨_,_,rfl,w2⟩
    ·exact ⟨_,_,rfl,w2⟩
 ·simp only [hp,decide_false,Bool.false_eq_true,if_false,Option.bind_some]
  exact ⟨_,_,rfl,GR c2⟩
end Go.Sh
namespace Go.Sh
open Go.L
def zF {E:Type} (st:E→aL) (l:List E) (e:E):Prop:=e ∈ l∧(st e).pZ=true∧∀ e' ∈ l,(st e').pZ=true→Hh (st e') (st e)→e'=e
structure wI {E:Type} (st:E→aL) (l C:List E):Prop where
 sorted:C.Pairwise fun a b=>gN (st a) (st b)<0
 mem:∀ e,e ∈ C ↔ zF st l e
theorem wI.unique {E:Type} {st:E→aL} {l C D:List E} (h:wI st l C) (h':wI st l D):C=D :=
 oR (R:=fun a b=>gN (st a) (st b)<0) (fun a h=>by rw [hD] at h; omega) (fun a b c h1 h2=>by rw [hD] at *; omega) h.sorted h'.sorted fun e=>by rw [h.mem,h'.mem]
theorem zF.congr {E:Type} {st:E→aL} {l m:List E} (h:∀ e,e ∈ l ↔ e ∈ m) (e:E):zF st l e ↔ zF st m e:=by
 unfold zF; simp only [h]
theorem wI.congr {E:Type} {st:E→aL} {l m C:List E} (h:∀ e,e ∈ l ↔ e ∈ m) (hC:wI st l C):wI st m C :=
 ⟨hC.sorted,fun e=>by rw [hC.mem,zF.congr h]⟩
structure rM {E:Type} (st:E→aL) (l:List E) (cl:List Int):Prop where
 len:l.length=cl.length
 iff:∀ (i:Nat) (x:E) (c:Int),l[i]?=some x→cl[i]?=some c →
  ((∀ (k:Nat) (y:E) (d:Int),l[k]?=some y→cl[k]?=some d→st y=st x→d=c) ↔ (∀ y ∈ l,st y=st x→y=x))
theorem Dz {x y:aL} (h1:x.Time=y.Time) (h2:x.Source=y.Source) (h3:x.Seq=y.Seq):x=y:=by
 cases x; cases y; simp_all
theorem si {E:Type} {st:E→aL} {l:List E} {cl:List Int} (h:rM st l cl) {i:Nat} {x:E} (hx:l[i]?=some x) :
  counts (l.map st) cl i ↔ zF st l x∧∀ k,k<i→l[k]? ≠ some x:=by
 have hi:i<l.length:=(List.getElem?_eq_some_iff.1 hx).1
 have gV:i<cl.length:=by have:=h.len; omega
 obtain ⟨c,hc⟩:∃ c,cl[i]?=some c:=⟨cl[i],by simp [gV]⟩
 have key:=h.iff i x c hx hc
 have Hc:(l.map st)[i]?=some (st x):=by simp [hx]
 have ll:∀ (k:Nat) (y:E),l[k]?=some y→∃ d,cl[k]?=some d:=fun k y hy=>by
  have:k<l.length:=(List.getElem?_eq_some_iff.1 hy).1
  have hk:k<cl.length:=by have:=h.len; omega
  exact ⟨cl[k],by simp [hk]⟩
 constructor
 ·rintro ⟨⟨x',h1,h2⟩,h3⟩
  rw [Hc] at h1; cases h1
  have lT:∀ (k:Nat) (y:E) (d:Int),l[k]?=some y→cl[k]?=some d→(st y).pZ=true→Hh (st y) (st x)→(st y).Time=(st x).Time∧d=c:=fun k y d hy hd hg hs=>by
   have hk:(l.map st)[k]?=some (st y):=by simp [hy]
   have:=(h3 k ⟨st y,hk,hg⟩).1
   apply Classical.byContradiction
   intro hn
   refine this ⟨st x,st y,c,d,Hc,hk,hc,hd,⟨hs.1.symm,hs.2.symm⟩,?_⟩
   by_cases ht:(st x).Time=(st y).Time
   ·exact .inr fun U6=>hn ⟨ht.symm,U6.symm⟩
   ·exact .inl ht
  have heq:∀ y ∈ l,st y=st x→y=x:=key.1 fun k y d hy hd hs=>(lT k y d hy hd (by rw [hs]; exact h2) (by rw [hs]; exact ⟨rfl,rfl⟩)).2
  refine ⟨⟨List.mem_of_getElem? hx,h2,fun y hy hg hs=>?_⟩,fun k hk Vo=>?_⟩
  ·obtain ⟨k,hk⟩:=List.getElem?_of_mem hy
   obtain ⟨d,hd⟩:=ll k y hk
   exact heq y hy (Dz (lT k y d hk hd hg hs).1 hs.1 hs.2)
  ·have T2:(l.map st)[k]?=some (st x):=by simp [Vo]
   exact (h3 k ⟨st x,T2,h2⟩).2 hk (by rw [T2,Hc])
 ·rintro ⟨⟨h1,h2,h3⟩,h4⟩
  refine ⟨⟨st x,Hc,h2⟩,fun k hk=>⟨?_,fun xj he=>?_⟩⟩
  ·rintro ⟨x',y',c',d,a1,a2,a3,a4,a5,a6⟩
   rw [Hc] at a1; cases a1
   rw [hc] at a3; cases a3
   simp only [List.getElem?_map,Option.map_eq_some_iff] at a2
   obtain ⟨y,hy,rfl⟩:=a2
   have Vg:(st y).pZ=true:=by
    obtain ⟨z,b1,b2⟩:=hk
    simp only [List.getElem?_map,hy,Option.map_some,Option.some.injEq] at b1
    rw [b1]; exact b2
   have Hf:y=x:=h3 y (List.mem_of_getElem? hy) Vg ⟨a5.1.symm,a5.2.symm⟩
   subst Hf
   rcases a6 with a6 | a6
   ·exact a6 rfl
   ·refine a6 (key.2 (fun z hz Uh=>h3 z hz (by rw [Uh]; exact h2) (by rw [Uh]; exact ⟨rfl,rfl⟩)) k y d hy a4 rfl).symm
  ·obtain ⟨z,b1,b2⟩:=hk
   rw [b1,Hc] at he
   cases he
   simp only [List.getElem?_map,Option.map_eq_some_iff] at b1
   obtain ⟨y,hy,Hf⟩:=b1
   have:y=x:=h3 y (List.mem_of_getElem? hy) (by rw [Hf]; exact h2) (by rw [Hf]; exact ⟨rfl,rfl⟩)
   subst this
   exact h4 k xj hy
theorem qx {E:Type} [DecidableEq E] {x:E}:∀ {l:List E},x ∈ l→∃ i:Nat,l[i]?=some x∧∀ k,k<i→l[k]? ≠ some x
  | [],h=>by simp at h
  | y :: r,h=>by
    by_cases rh:y=x
    · exact ⟨0,by simp [rh],by omega⟩
    · have hr : x ∈ r := by rcases List.mem_cons.1 h with h | h
                            · exact absurd h.symm rh
                            · exact h
      obtain ⟨i,h1,h2⟩:=qx hr
      refine ⟨i+1,by simpa using h1,fun k hk=>?_⟩
      cases k with
      | zero=>simpa using rh
      | succ k=>simpa using h2 k (by omega)
def gR {E:Type} (l:List E) (a:List Int):List E:=a.filterMap fun i=>l[i.toNat]?
theorem nu {E:Type} {l:List E}:∀ {a:List Int},(∀ i ∈ a,i.toNat<l.length)→(gR l a).length=a.length
 | [],_=>rfl
 | i :: a,h=>by
  have hi:=h i (by simp)
  have:=nu (l:=l) (a:=a) fun j hj=>h j (by simp [hj])
  simp only [gR] at this
  simp [gR,hi,this]
theorem BB {E:Type} [DecidableEq E] {st:E→aL} {l:List E} {cl:List Int} (h:rM st l cl) {a:List Int} (ha:ks (l.map st) cl a):wI st l (gR l a):=by
 have dN:∀ i ∈ a,i.toNat<l.length:=fun i hi=>by have:=jN ((ha.mem i).1 hi).2; simpa using this
 refine ⟨?_,fun e=>?_⟩
 ·unfold gR
  rw [List.pairwise_filterMap]
  refine List.Pairwise.imp_of_mem (fun {i j} hi hj rA=>?_) ha.sorted
  intro x hx y hy
  obtain ⟨p,q,h1,h2,h3⟩:=rA
  simp only [List.getElem?_map,Option.map_eq_some_iff] at h1 h2
  obtain ⟨x',h4,rfl⟩:=h1
  obtain ⟨y',h5,rfl⟩:=h2
  simp_all
 ·simp only [gR,List.mem_filterMap]
  constructor
  ·rintro ⟨i,hi,hx⟩
   exact ((si h hx).1 ((ha.mem i).1 hi).2).1
  ·intro he
   obtain ⟨i,h1,h2⟩:=qx he.1
   exact ⟨(i:Int),(ha.mem _).2 ⟨by omega,by simpa using (si h h1).2 ⟨he,h2⟩⟩,by simpa using h1⟩
def mn {E:Type} [DecidableEq E] (l:List E):List Int:=l.map fun x=>(l.findIdx (fun y=>decide (y=x)):Int)
theorem vr {E:Type} [DecidableEq E] (st:E→aL) (l:List E):rM st l (mn l):=by
 refine ⟨by simp [mn],fun i x c hx hc=>?_⟩
 have IF:c=(l.findIdx (fun y=>decide (y=x)):Int):=by simp [mn,hx] at hc; exact hc.symm
 constructor
 ·intro h y hy hs
  obtain ⟨k,hk⟩:=List.getElem?_of_mem hy
  have:=h k y (l.findIdx (fun z=>decide (z=y)):Int) hk (by simp [mn,hk]) hs
  rw [IF] at this
  have hf:l.findIdx (fun z=>decide (z=y))=l.findIdx (fun z=>decide (z=x)):=by omega
  have dN:l.findIdx (fun z=>decide (z=x))<l.length:=List.findIdx_lt_length_of_exists ⟨x,List.mem_of_getElem? hx,by simp⟩
  have e1:=List.findIdx_getElem (xs:=l) (p:=fun z=>decide (z=x)) (w:=dN)
  have Kn:l.findIdx (fun z=>decide (z=y))<l.length:=by rw [hf]; exact dN
  have e2:=List.findIdx_getElem (xs:=l) (p:=fun z=>decide (z=y)) (w:=Kn)
  simp only [decide_eq_true_eq] at e1 e2
  rw [← e1,← e2]
  simp only [hf]
 ·intro h k y d hy hd hs
  have:=h y (List.mem_of_getElem? hy) hs
  subst this
  simp [mn,hy] at hd
  rw [IF,← hd]
def sf {E:Type} [DecidableEq E] (st:E→aL) (l:List E):List Int:=l.map fun x=>if l.find? (fun y=>decide (st y=st x))=some x then 0 else 1
theorem Bl {E:Type} [DecidableEq E] (st:E→aL) (l:List E):rM st l (sf st l):=by
 refine ⟨by simp [sf],fun i x c hx hc=>?_⟩
 have IF:c=if l.find? (fun y=>decide (st y=st x))=some x then 0 else 1:=by simp [sf,hx] at hc; exact hc.symm
 obtain ⟨f,hf⟩:∃ f,l.find? (fun y=>decide (st y=st x))=some f:=by
  cases h:l.find? (fun y=>decide (st y=st x)) with
  | none=>rw [List.find?_eq_none] at h; exact absurd (h x (List.mem_of_getElem? hx)) (by simp)
  | some f=>exact ⟨f,rfl⟩
 have T0:st f=st x:=by simpa using List.find?_some hf
 have Vb:f ∈ l:=List.mem_of_find?_eq_some hf
 have TX:∀ y,st y=st x→l.find? (fun z=>decide (st z=st y))=some f:=fun y hy=>by rw [hy]; exact hf
 constructor
 ·intro h
  obtain ⟨k,hk⟩:=List.getElem?_of_mem Vb
  have h0:=h k f 0 hk (by simp [sf,hk,TX f T0]) T0
  have lT:∀ y ∈ l,st y=st x→y=f:=fun y hy hs=>by
   obtain ⟨j,hj⟩:=List.getElem?_of_mem hy
   have:=h j y _ hj (by simp only [sf,List.getElem?_map,hj,Option.map_some]; rfl) hs
   rw [← h0,TX y hs] at this
   by_cases he:f=y
   ·exact he.symm
   ·rw [if_neg (by simpa using he)] at this; omega
  intro y hy hs
  rw [lT y hy hs,lT x (List.mem_of_getElem? hx) rfl]
 ·intro h k y d hy hd hs
  have:=h y (List.mem_of_getElem? hy) hs
  subst this
  simp only [sf,List.getElem?_map,hy,Option.map_some,Option.some.injEq] at hd
  rw [IF,← hd]
def G8 {E:Type} [DecidableEq E] (st:E→aL) (l:List E):List E:=gR l (jm (l.map st) (mn l))
theorem Ew {E:Type} [DecidableEq E] (st:E→aL) (l:List E):wI st l (G8 st l):=BB (vr st l) (mZ _ _)
theorem Ex {E:Type} [DecidableEq E] {st:E→aL} {l:List E} {cl:List Int} (h:rM st l cl):gR l (jm (l.map st) cl)=G8 st l :=
 (BB h (mZ _ _)).unique (Ew st l)
theorem pX {l:List aL} {cl:List Int} {i:Int} (h:i ∈ jm l cl):0≤i∧i.toNat<l.length:=by
 have:=((mZ l cl).mem i).1 h; exact ⟨this.1,jN this.2⟩
theorem Bq {E:Type} [DecidableEq E] {st:E→aL} {l:List E} {cl:List Int} (h:rM st l cl):(jm (l.map st) cl).length=(G8 st l).length:=by
 rw [← Ex h,nu]
 intro i hi; have:=(pX hi).2; simpa using this
theorem uu {E:Type} [DecidableEq E] {st:E→aL} {l:List E} {cl:List Int} (h:rM st l cl):ob (l.map st) cl=if 300<(G8 st l).length then ([],3) else (jm (l.map st) cl,0):=by
 have h1:=h.len
 unfold ob
 rw [if_neg (by simpa using h1),Bq h]
theorem CO {α:Type} {lt:α→α→Bool} (l:List α):(pA lt l).length=l.length:=gH.length_eq
theorem oa (l:List aL) (cl:List Int):(jm l cl).length≤l.length:=by
 unfold jm
 rw [CO,List.length_map]
 have:=List.length_filter_le (nb l cl) (List.range l.length)
 simpa using this
theorem JQ {E:Type} [DecidableEq E] (st:E→aL) (l:List E):(G8 st l).length≤l.length:=by
 rw [← Bq (vr st l)]
 have:=oa (l.map st) (mn l)
 simpa using this
def gz {E:Type} [DecidableEq E] (st:E→aL) (l:List E):List E × Int:=if 300<(G8 st l).length then ([],3) else (G8 st l,0)
end Go.Sh
namespace Go.Sh
open Go.L
def run {α σ R:Type} (g:Nat→α→σ→R ⊕ σ) (e:σ→R):Nat→List α→σ→R
 | _,[],s=>e s
 | i,x :: l,s=>match g i x s with | .inl r=>r | .inr s'=>run g e (i+1) l s'
theorem Ia {α σ R:Type} {a:List α} {L:Nat→Int→σ→Option R} (g:Nat→α→σ→R ⊕ σ) (e:σ→R) (I:Nat→σ→Prop) (hb:a.length<1000000)
  (hS:∀ n (i:Nat) x s,a[i]?=some x→I i s→(match g i x s with | .inl r=>L (n+1) (i:Int) s=some r | .inr s'=>L (n+1) (i:Int) s=L n ((i+1:Nat):Int) s'∧I (i+1) s'))
  (hE:∀ n s,I a.length s→L (n+1) (a.length:Int) s=some (e s)) :
  ∀ (l p:List α) (n:Nat) (s:σ),a=p++l→l.length<n→I p.length s→L n (p.length:Int) s=some (run g e p.length l s):=by
 intro l
 induction l with
 | nil=>intro p n s hp hn hI; cases n with
  | zero=>omega
  | succ n =>
   have:a=p:=by simpa using hp
   subst this
   rw [hE n s hI]; rfl
 | cons x l ih=>intro p n s hp hn hI; cases n with
  | zero=>omega
  | succ n =>
   have hx:a[p.length]?=some x:=by rw [hp]; simp
   have:=hS n p.length x s hx hI
   unfold run
   cases hg:g p.length x s with
   | inl r=>rw [hg] at this; exact this
   | inr s' =>
    rw [hg] at this
    obtain ⟨h1,h2⟩:=this
    rw [h1]
    have e1:p.length+1=(p++[x]).length:=by simp
    rw [e1] at h2 ⊢
    exact ih (p++[x]) n s' (by rw [hp]; simp) (by simpa using hn) h2
theorem yF {α σ R:Type} {a:List α} {L:Nat→Int→σ→Option R} (g:Nat→α→σ→R ⊕ σ) (e:σ→R) (I:Nat→σ→Prop) {s0:σ} {F:Nat} (hb:a.length<1000000)
  (hS:∀ n (i:Nat) x s,a[i]?=some x→I i s→(match g i x s with | .inl r=>L (n+1) (i:Int) s=some r | .inr s'=>L (n+1) (i:Int) s=L n ((i+1:Nat):Int) s'∧I (i+1) s'))
  (hE:∀ n s,I a.length s→L (n+1) (a.length:Int) s=some (e s)) (hF:a.length<F) (h0:I 0 s0):L F 0 s0=some (run g e 0 a s0) :=
 Ia g e I hb hS hE a [] F s0 rfl hF h0
def scan {α R:Type} (g:Nat→α→Option R) (e:R):Nat→List α→R
 | _,[]=>e
 | i,x :: l=>match g i x with | some r=>r | .none=>scan g e (i+1) l
theorem gx {α R:Type} {a:List α} {L:Nat→Int→Option R} (g:Nat→α→Option R) (e:R) {F:Nat} (hb:a.length<1000000)
  (hS:∀ n (i:Nat) x,a[i]?=some x→i<1000000→L (n+1) (i:Int)=match g i x with | some r=>some r | .none=>L n ((i+1:Nat):Int))
  (hE:∀ n,L (n+1) (a.length:Int)=some e) (hF:a.length<F):L F 0=some (scan g e 0 a):=by
 have key:∀ (l p:List α) (n:Nat),a=p++l→l.length<n→L n (p.length:Int)=some (scan g e p.length l):=by
  intro l
  induction l with
  | nil=>intro p n hp hn; cases n with
   | zero=>omega
   | succ n =>
    have:a=p:=by simpa using hp
    subst this
    rw [hE n]; rfl
  | cons x l ih=>intro p n hp hn; cases n with
   | zero=>omega
   | succ n =>
    have hx:a[p.length]?=some x:=by rw [hp]; simp
    have hl:p.length<1000000:=by rw [hp] at hb; simp at hb; omega
    rw [hS n p.length x hx hl]
    unfold scan
    cases hg:g p.length x with
    | some r=>rfl
    | none =>
     simp only
     have e1:p.length+1=(p++[x]).length:=by simp
     rw [e1]
     exact ih (p++[x]) n (by rw [hp]; simp) (by simpa using hn)
 exact key a [] F rfl hF
theorem tG {α:Type} (f:α→Bool):∀ (l:List α) (i:Nat),scan (fun _ x=>if f x=true then .none else some false) true i l=l.all f
 | [],i=>rfl
 | x :: l,i=>by
  unfold scan
  rw [List.all_cons]
  cases hf:f x with
  | true=>simp [tG f l]
  | false=>simp
theorem Bg {α:Type} {a:List α} {L:Nat→Int→Option Bool} (f:α→Bool) {F:Nat} (hb:a.length<1000000)
  (hS:∀ n (i:Nat) x,a[i]?=some x→i<1000000→L (n+1) (i:Int)=if f x=true then L n ((i+1:Nat):Int) else some false)
  (hE:∀ n,L (n+1) (a.length:Int)=some true) (hF:a.length<F):L F 0=some (a.all f):=by
 rw [gx (fun _ x=>if f x=true then .none else some false) true hb (fun n i x hx hi=>?_) hE hF,tG]
 rw [hS n i x hx hi]
 cases f x <;> rfl
theorem B4 {α:Type} [DecidableEq α]:∀ (l m p:List α),l.length=m.length→scan (fun i x=>if (p++m)[i]?=some x then .none else some false) true p.length l=decide (l=m)
 | [],[],p,_=>rfl
 | x :: l,y :: m,p,h=>by
  unfold scan
  have e:(p++y :: m)[p.length]?=some y:=by simp
  rw [e]
  by_cases rh:x=y
  ·subst rh
   simp only [if_true,List.cons.injEq,true_and]
   have:=B4 l m (p++[x]) (by simpa using h)
   simpa using this
  ·have:¬ (some y=some x):=fun hh=>rh (Option.some.inj hh).symm
   simp [this,rh]
theorem Et {α:Type} [DecidableEq α] {a b:List α} {L:Nat→Int→Option Bool} {F:Nat} (hl:a.length=b.length) (hb:a.length<1000000)
  (hS:∀ n (i:Nat) x y,a[i]?=some x→b[i]?=some y→i<1000000→L (n+1) (i:Int)=if x=y then L n ((i+1:Nat):Int) else some false)
  (hE:∀ n,L (n+1) (a.length:Int)=some true) (hF:a.length<F):L F 0=some (decide (a=b)):=by
 rw [gx (fun i x=>if b[i]?=some x then .none else some false) true hb (fun n i x hx hi=>?_) hE hF]
 ·exact congrArg some (B4 a b [] hl)
 ·have gV:i<b.length:=by rw [← hl]; exact (List.getElem?_eq_some_iff.1 hx).1
  rw [hS n i x b[i] hx (by simp [gV]) hi]
  by_cases h:x=b[i]
  ·simp [h,gV]
  ·have:¬ (b[i]?=some x):=fun hh=>by rw [List.getElem?_eq_getElem gV] at hh; exact h (Option.some.inj hh).symm
   simp [h,this]
theorem jT {α:Type} {a:List α} {i:Nat} {x:α} (h:a[i]?=some x):decide ((i:Int)<(a.length:Int))=true:=by
 have:=(List.getElem?_eq_some_iff.1 h).1; simp; omega
theorem jC (n:Nat):decide ((n:Int)<(n:Int))=false:=by simp
theorem jY {α:Type} {a:List α} {i:Nat} {x:α} (h:a[i]?=some x):idx a (i:Int)=some x:=by rw [ni,h]
theorem jH {i:Nat} (h:i<1000000):i64 ((i:Int)+1)=((i+1:Nat):Int):=by rw [cQ (by omega) (by omega)]; rfl
theorem qc {α:Type} {f:Nat→α→Bool} {e:Bool}:∀ (l:List α) (i:Nat),(scan (fun i x=>if f i x=true then .none else some false) e i l=true ↔ e=true∧∀ (j:Nat) x,l[j]?=some x→f (i+j) x=true)
 | [],i=>by simp [scan]
 | x :: l,i=>by
  unfold scan
  cases hf:f i x with
  | false =>
   simp only [Bool.false_eq_true,if_false]
   constructor
   ·intro h; cases h
   ·rintro ⟨_,h⟩; have:=h 0 x rfl; rw [Nat.add_zero,hf] at this; cases this
  | true =>
   simp only [if_true]
   rw [qc l (i+1)]
   constructor
   ·rintro ⟨h1,h2⟩
    refine ⟨h1,fun j y hy=>?_⟩
    cases j with
    | zero=>simp at hy; subst hy; exact hf
    | succ j=>have:=h2 j y (by simpa using hy); rw [← this]; congr 1; omega
   ·rintro ⟨h1,h2⟩
    refine ⟨h1,fun j y hy=>?_⟩
    have:=h2 (j+1) y (by simpa using hy)
    rw [← this]; congr 1; omega
def u6 {α R:Type} (g:Nat→α→Option R) (e:Option R):Nat→List α→Option R
 | _,[]=>e
 | i,x :: l=>match g i x with | some r=>some r | .none=>u6 g e (i+1) l
theorem jP {α R:Type} {a:List α} {L:Nat→Int→Option R} (g:Nat→α→Option R) (e:Option R) {F:Nat} (hb:a.length<1000000)
  (hS:∀ n (i:Nat) x,a[i]?=some x→i<1000000→L (n+1) (i:Int)=match g i x with | some r=>some r | .none=>L n ((i+1:Nat):Int))
  (hE:∀ n,L (n+1) (a.length:Int)=e) (hF:a.length<F):L F 0=u6 g e 0 a:=by
 have key:∀ (l p:List α) (n:Nat),a=p++l→l.length<n→L n (p.length:Int)=u6 g e p.length l:=by
  intro l
  induction l with
  | nil=>intro p n hp hn; cases n with
   | zero=>omega
   | succ n =>
    have:a=p:=by simpa using hp
    subst this
    rw [hE n]; rfl
  | cons x l ih=>intro p n hp hn; cases n with
   | zero=>omega
   | succ n =>
    have hx:a[p.length]?=some x:=by rw [hp]; simp
    have hl:p.length<1000000:=by rw [hp] at hb; simp at hb; omega
    rw [hS n p.length x hx hl]
    unfold u6
    cases hg:g p.length x with
    | some r=>rfl
    | none =>
     simp only
     have e1:p.length+1=(p++[x]).length:=by simp
     rw [e1]
     exact ih (p++[x]) n (by rw [hp]; simp) (by simpa using hn)
 exact key a [] F rfl hF
def allI {α:Type} (f:Nat→α→Bool) (i:Nat) (l:List α):Bool:=scan (fun i x=>if f i x=true then .none else some false) true i l
theorem j6 {α R:Type} (f:Nat→α→Bool) (c:R) (e:Option R):∀ (l:List α) (i:Nat),u6 (fun i x=>if f i x=true then .none else some c) e i l=if allI f i l=true then e else some c
 | [],i=>rfl
 | x :: l,i=>by
  unfold u6 allI scan
  cases hf:f i x with
  | true=>simp only [if_true]; exact j6 f c e l (i+1)
  | false=>simp
theorem o5 {α:Type} (f:α→Bool) (l:List α) (i:Nat):allI (fun _ x=>f x) i l=l.all f:=tG f l i
theorem yJ {α:Type} (f:Nat→α→Bool) (e:Bool):∀ (l:List α) (i:Nat),scan (fun i x=>if f i x=true then .none else some false) e i l=(allI f i l && e)
 | [],i=>by simp [scan,allI]
 | x :: l,i=>by
  unfold allI scan
  cases hf:f i x with
  | true=>simp only [if_true]; exact yJ f e l (i+1)
  | false=>simp
theorem JM {a b:Bool} (h:a=true ↔ b=true):a=b:=by cases a <;> cases b <;> simp_all
end Go.Sh
namespace Go.Sh
open Go.L
def G6 (F:Nat) (x:ai):Prop:=(x.aI.length<1000000∧x.aI.length<F)∧(x.aD.length<1000000∧x.aD.length<F)
def qo (F:Nat) (l:List ax):Prop:=∀ e ∈ l,G6 F e.Item
theorem Bp {F:Nat} {a b:List Int} (hb:a.length<1000000) (hF:a.length<F):AE F a b=some (decide (a=b)):=by
 unfold AE
 by_cases h:a.length=b.length
 ·have h1:((a.length:Int) != (b.length:Int))=false:=by simp [h]
  simp only [h1,Bool.false_eq_true,if_false]
  refine Et h hb (fun n i x y hx hy hi=>?_) (fun n=>?_) hF
  ·simp only [xL,C3,jT hx,if_true,jY hx,jY hy,Option.bind_some,jH hi]
   by_cases rh:x=y <;> simp [rh]
  ·simp only [xL,C3,jC,Bool.false_eq_true,if_false]
 ·have h1:((a.length:Int) != (b.length:Int))=true:=by simp; omega
  have h2:a ≠ b:=fun pd=>h (by rw [pd])
  simp [h1,h2]
theorem Ev {F:Nat} {a b:List ao} (hb:a.length<1000000) (hF:a.length<F):Gd F a b=some (decide (a=b)):=by
 unfold Gd
 by_cases h:a.length=b.length
 ·have h1:((a.length:Int) != (b.length:Int))=false:=by simp [h]
  simp only [h1,Bool.false_eq_true,if_false]
  refine Et h hb (fun n i x y hx hy hi=>?_) (fun n=>?_) hF
  ·simp only [C2,F7,jT hx,if_true,jY hx,jY hy,Option.bind_some,jH hi]
   by_cases rh:x=y <;> simp [rh]
  ·simp only [C2,F7,jC,Bool.false_eq_true,if_false]
 ·have h1:((a.length:Int) != (b.length:Int))=true:=by simp; omega
  have h2:a ≠ b:=fun pd=>h (by rw [pd])
  simp [h1,h2]
theorem HP {F:Nat} {a b:List Int}:u3 F a b=AE F a b:=by
 have h:∀ n,uX a b n=xL a b n:=fun n=>by
  induction n with
  | zero=>rfl
  | succ n ih=>show BT a b (uX a b n)=C3 a b (xL a b n); rw [ih]; rfl
 unfold u3 AE; rw [h]
theorem Lb {F:Nat} {a b:List Int} (hb:a.length<1000000) (hF:a.length<F):u3 F a b=some (decide (a=b)):=by rw [HP]; exact Bp hb hF
theorem As {F:Nat} {a b:ai} (hl:a.aI.length=b.aI.length) (hb:a.aI.length<1000000) (hF:a.aI.length<F):∃ r,BX F a b=some r∧(r=[] ↔ a.aI=b.aI):=by
 have key : ∀ (j n i : Nat) (r : List Int), i + j = a.aI.length → j < n → r.length ≤ i → ∃ q, AK a b n (i : Int) r = some q ∧ (q = [] ↔ r = [] ∧ a.aI.drop i = b.aI.drop i) := by
  intro j
  induction j with
  | zero=>intro n i r hi hn hr; cases n with
   | zero=>omega
   | succ n =>
    have hm:max (a.aI.length:Int) (b.aI.length:Int)=(i:Int):=by rw [← hl]; omega
    simp only [AK,Gp,hm,jC,Bool.false_eq_true,if_false]
    refine ⟨r,rfl,?_⟩
    rw [List.drop_of_length_le (by omega),List.drop_of_length_le (by omega)]
    simp
  | succ j ih=>intro n i r hi hn hr; cases n with
   | zero=>omega
   | succ n =>
    have hm:decide ((i:Int)<max (a.aI.length:Int) (b.aI.length:Int))=true:=by simp; omega
    have h1:decide ((i:Int) ≥ (a.aI.length:Int))=false:=by simp; omega
    have h2:decide ((i:Int) ≥ (b.aI.length:Int))=false:=by simp; omega
    have i1:i<a.aI.length:=by omega
    have i2:i<b.aI.length:=by omega
    simp only [AK,Gp,hm,h1,h2,if_true,Bool.false_eq_true,if_false,dx i1,dx i2,Option.bind_some,jH (show i<1000000 by omega)]
    rw [List.drop_eq_getElem_cons i1,List.drop_eq_getElem_cons i2]
    by_cases rh:a.aI[i]=b.aI[i]
    ·obtain ⟨q,q1,q2⟩:=ih n (i+1) r (by omega) (by omega) (by omega)
     refine ⟨q,?_,?_⟩
     ·simp only [rh,decide_true,Bool.not_true,Bool.false_eq_true,if_false]; exact q1
     ·rw [q2,rh]; simp only [List.cons.injEq,true_and]
    ·obtain ⟨q,q1,q2⟩:=ih n (i+1) (r++[(i:Int)]) (by omega) (by omega) (by simp; omega)
     refine ⟨q,?_,?_⟩
     ·simp only [rh,decide_false,Bool.not_false,if_true]
      rw [c8 (by simp; omega),Option.bind_some]; exact q1
     ·rw [q2]; simp only [List.cons.injEq,rh,false_and,and_false,List.append_eq_nil_iff,reduceCtorEq]
 obtain ⟨q,q1,q2⟩:=key a.aI.length F 0 [] (by omega) hF (by simp)
 exact ⟨q,q1,by rw [q2]; simp⟩
theorem tF {F:Nat} {a b:ai} (h:G6 F a):xZ F a b=some (decide (a=b)):=by
 unfold xZ
 rw [Ev h.1.1 h.1.2,Bp h.2.1 h.2.2]
 obtain ⟨i,v,s,p,e⟩:=a
 obtain ⟨i',v',s',p',e'⟩:=b
 simp only [ai.mk.injEq,decide_eq_true_eq,beq_iff_eq,Option.bind_some]
 by_cases h1:i=i'
 ·by_cases h2:v=v'
  ·by_cases h3:s=s'
   ·by_cases h4:p=p'
    ·simp [h1,h2,h3,h4]
    ·simp [h4]
   ·simp [h3]
  ·simp [h2]
 ·simp [h1]
theorem yE {F:Nat} {a b:ai} (h:G6 F a):yp F a b=some (decide (a=b)):=by
 unfold yp
 rw [Lb h.2.1 h.2.2]
 by_cases hl:a.aI.length=b.aI.length
 ·obtain ⟨r,r1,r2⟩:=As hl h.1.1 h.1.2
  have iD:((a.aI.length:Int) == (b.aI.length:Int))=true:=by simp [hl]
  have hr:((r.length:Int) == 0)=decide (a.aI=b.aI):=by
   rw [Bool.eq_iff_iff,beq_iff_eq,decide_eq_true_eq,← r2]
   constructor
   ·intro h; exact List.eq_nil_of_length_eq_zero (by omega)
   ·intro h; rw [h]; rfl
  rw [r1]
  simp only [iD,if_true,Option.bind_some,hr]
  obtain ⟨i,v,s,p,e⟩:=a
  obtain ⟨i',v',s',p',e'⟩:=b
  simp only [ai.mk.injEq,decide_eq_true_eq,beq_iff_eq,Option.bind_some]
  by_cases h1:i=i'
  ·by_cases h2:v=v'
   ·by_cases h3:s=s'
    ·by_cases h4:p=p'
     ·simp [h1,h2,h3,h4]
     ·simp [h4]
    ·simp [h3]
   ·simp [h2]
  ·simp [h1]
 ·have iD:((a.aI.length:Int) == (b.aI.length:Int))=false:=by simp; omega
  have ep:a ≠ b:=fun pd=>hl (by rw [pd])
  simp only [iD,Bool.false_eq_true,if_false,ep,decide_false]
  repeat' split
  all_goals rfl
theorem GJ {F:Nat} {a b:ax} (h:G6 F a.Item):iy F a b=some (decide (a=b)):=by
 unfold iy
 rw [tF h]
 obtain ⟨s,k,g,r,f⟩:=a
 obtain ⟨s',k',g',r',f'⟩:=b
 simp only [ax.mk.injEq,decide_eq_true_eq,beq_iff_eq,Option.bind_some]
 by_cases h1:s=s'
 ·by_cases h2:k=k'
  ·by_cases h3:r=r'
   ·by_cases h4:f=f'
    ·simp [h1,h2,h3,h4]
    ·simp [h4]
   ·simp [h3]
  ·simp [h2]
 ·simp [h1]
theorem H9 {F:Nat} {a b:ax} (h:G6 F a.Item):yr F a b=some (decide (a=b)):=by
 rw [← GJ h]; unfold yr iy; rw [yE h,tF h]
theorem mj {F:Nat} {x:ai} (h:G6 F x):AO x=some x:=by
 unfold AO
 rw [c8 (by simp; have:=h.1.1; omega),Option.bind_some,c8 (by simp; have:=h.2.1; omega)]
 rfl
theorem uK {α β:Type} [DecidableEq α] (k k':α) (v:β):∀ m:List (α × β),gG (dS m k v) k'=if k'=k then some v else gG m k'
  | [] => by simp only [dS, gG]; by_cases h : k = k'
             · simp [h]
             · simp [h,Ne.symm h]
  | (a,b) :: r=>by
    simp only [dS]
    by_cases h:a=k
    · subst h
      simp only [if_true,gG]
      by_cases h2:a=k'
      · simp [h2]
      · simp [h2,Ne.symm h2]
    · simp only [h,if_false,gG,uK k k' v r]
      by_cases h2:a=k'
      · subst h2; simp [h]
      · simp [h2]
theorem FH {i:Nat} (h:i<1000000000):i64 ((i:Int)+1)=((i+1:Nat):Int):=by rw [cQ (by omega) (by omega)]; rfl
theorem py {α:Type} {p:List α} {x:α} {s:List α} {n:Nat} (h:p.length=n):idx (p++x :: s) (n:Int)=some x:=by rw [← h]; exact jq p x s
theorem rI {α:Type} {p:List α} {x y:α} {s:List α} {n:Nat} (h:p.length=n):(p++x :: s).set (n:Int).toNat y=p++y :: s:=by
 simp [← h]
theorem split_loop {F0:List ax} {p1:ax→Option aL} {p2:ax→ax→Option Bool} (hb:F0.length<1000000) (h1:∀ a ∈ F0,p1 a=some a.ar) (h2:∀ a ∈ F0,∀ b ∈ F0,p2 a b=some (decide (a=b))) (z:aL) :
  ∀ (s p:List ax) (n:Nat) (m:List (aL × Int)),F0=p++s→s.length<n→(∀ x,gG m x=(p.findIdx? fun y=>decide (y.ar=x)).map Int.ofNat) →
   AD F0 p1 p2 n (p.length:Int) (p.map (·.ar)++List.replicate s.length z) (p.map (fun x=>if F0.find? (fun y=>decide (y.ar=x.ar))=some x then 0 else 1)++List.replicate s.length 0) m
    = some (F0.map (·.ar),sf (·.ar) F0):=by
 intro s
 induction s with
 | nil =>
  intro p n m hp hn hm
  cases n with
  | zero=>omega
  | succ n =>
   have:F0=p:=by simpa using hp
   subst this
   simp only [AD,F6,Int.lt_irrefl,decide_false,Bool.false_eq_true,if_false,List.length_nil,List.replicate_zero,List.append_nil,sf]
 | cons x s ih =>
  intro p n m hp hn hm
  cases n with
  | zero=>omega
  | succ n =>
   have hx:x ∈ F0:=by rw [hp]; simp
   have hlen:p.length<1000000:=by rw [hp] at hb; simp at hb; omega
   have d1:decide ((p.length:Int)<(F0.length:Int))=true:=by rw [hp]; exact Hn p x s
   have i1:idx F0 (p.length:Int)=some x:=by rw [hp]; exact jq p x s
   simp only [AD,F6,d1,if_true,i1,Option.bind_some,h1 x hx,List.length_cons,List.replicate_succ]
   rw [py (by simp),rI (by simp),py (by simp)]
   simp only [Option.bind_some,FH (show p.length<1000000000 by omega),hm]
   have EU:((p.length+1:Nat):Int)=((p++[x]).length:Int):=by simp
   have ko:p.map (·.ar)++x.ar :: List.replicate s.length z=(p++[x]).map (·.ar)++List.replicate s.length z:=by simp
   have hF:F0=(p++[x])++s:=by rw [hp]; simp
   have RE:∀ q:ax→Bool,F0.find? q=((p.find? q).or (if q x then some x else s.find? q)):=fun q=>by
    rw [hp,List.find?_append,List.find?_cons]
    cases q x <;> simp
   cases hj:p.findIdx? (fun y=>decide (y.ar=x.ar)) with
   | none =>
    simp only [Option.map_none,Option.isSome_none,Bool.not_false,if_true]
    have VB:p.find? (fun y=>decide (y.ar=x.ar))=.none:=by
     rw [List.findIdx?_eq_none_iff] at hj
     rw [List.find?_eq_none]; intro y hy; simpa using hj y hy
    have hc:F0.find? (fun y=>decide (y.ar=x.ar))=some x:=by rw [RE,VB]; simp
    have ll:p.map (fun x=>if F0.find? (fun y=>decide (y.ar=x.ar))=some x then (0:Int) else 1)++0 :: List.replicate s.length 0=(p++[x]).map (fun x=>if F0.find? (fun y=>decide (y.ar=x.ar))=some x then (0:Int) else 1)++List.replicate s.length 0:=by
     simp [hc]
    rw [ll,ko,EU]
    refine ih (p++[x]) n _ hF (by simpa using hn) fun y=>?_
    rw [uK,hm,List.findIdx?_append]
    by_cases Hf:y=x.ar
    ·subst Hf; simp [hj,List.findIdx?_cons]
    ·rw [if_neg Hf]
     cases p.findIdx? (fun z=>decide (z.ar=y)) with
     | none=>simp [List.findIdx?_cons,Ne.symm Hf]
     | some j=>simp
   | some j =>
    rw [List.findIdx?_eq_some_iff_getElem] at hj
    obtain ⟨iu,Mb,EO⟩:=hj
    simp only [decide_eq_true_eq] at Mb
    have Vz:p.find? (fun y=>decide (y.ar=x.ar))=some p[j]:=by
     rw [List.find?_eq_some_iff_getElem]
     exact ⟨by simpa using Mb,j,iu,rfl,fun k hk=>by simpa using EO k hk⟩
    have Va:idx F0 (j:Int)=some p[j]:=by
     rw [ni,hp,List.getElem?_append_left iu]; simp [iu]
    have VA:p[j] ∈ F0:=by rw [hp]; simp
    have hc:F0.find? (fun y=>decide (y.ar=x.ar))=some p[j]:=by rw [RE,Vz]; simp
    simp only [Option.map_some,Option.isSome_some,Bool.not_true,Bool.false_eq_true,if_false,Option.getD_some]
    have gW:∀ y,gG m y=((p++[x]).findIdx? fun z=>decide (z.ar=y)).map Int.ofNat:=fun y=>by
     rw [hm,List.findIdx?_append]
     cases hq:p.findIdx? (fun z=>decide (z.ar=y)) with
     | some j=>simp
     | none =>
      have:¬ x.ar=y:=fun rh=>by
       subst rh
       rw [List.findIdx?_eq_none_iff] at hq
       have:=hq p[j] (by simp)
       simp [Mb] at this
      simp [List.findIdx?_cons,this]
    show (idx F0 ((j:Nat):Int)).bind _=_
    rw [Va]
    simp only [Option.bind_some,h2 _ VA _ hx]
    by_cases he:p[j]=x
    ·have ll:p.map (fun x=>if F0.find? (fun y=>decide (y.ar=x.ar))=some x then (0:Int) else 1)++0 :: List.replicate s.length 0=(p++[x]).map (fun x=>if F0.find? (fun y=>decide (y.ar=x.ar))=some x then (0:Int) else 1)++List.replicate s.length 0:=by
      simp [hc,he]
     simp only [he,decide_true,Bool.not_true,Bool.false_eq_true,if_false]
     rw [ll,ko,EU]
     exact ih (p++[x]) n _ hF (by simpa using hn) gW
    ·have ll:p.map (fun x=>if F0.find? (fun y=>decide (y.ar=x.ar))=some x then (0:Int) else 1)++1 :: List.replicate s.length 0=(p++[x]).map (fun x=>if F0.find? (fun y=>decide (y.ar=x.ar))=some x then (0:Int) else 1)++List.replicate s.length 0:=by
      simp [hc,he]
     simp only [he,decide_false,Bool.not_false,if_true]
     rw [py (by simp),rI (by simp)]
     simp only [Option.bind_some]
     rw [ll,ko,EU]
     exact ih (p++[x]) n _ hF (by simpa using hn) gW
theorem Ie {F:Nat} {l:List ax} {p1:ax→Option aL} {p2:ax→ax→Option Bool} (hb:l.length<1000000) (hF:l.length<F) (h1:∀ a ∈ l,p1 a=some a.ar) (h2:∀ a ∈ l,∀ b ∈ l,p2 a b=some (decide (a=b))) :
  Gb F l p1 p2=some (l.map (·.ar),sf (·.ar) l):=by
 unfold Gb
 rw [vL (by omega),Option.bind_some,vL (by omega),Option.bind_some]
 exact split_loop hb h1 h2 _ l [] F [] rfl hF fun x=>by simp [gG]
theorem o9 {F:Nat} (ME:10≤F) {l:List ax} {p1:ax→Option aL} {p2:ax→ax→Option Bool} (hb:l.length<1000000) (hF:l.length<F) (h1:∀ a ∈ l,p1 a=some a.ar) (h2:∀ a ∈ l,∀ b ∈ l,p2 a b=some (decide (a=b))) :
  F8 F l p1 p2=some (ob (l.map (·.ar)) (sf (·.ar) l)):=by
 unfold F8
 rw [Ie hb hF h1 h2]
 simp only [Option.bind_some]
 rw [wQ ME (by simpa using hb) (by simpa using hF)]
 rfl
theorem Cl {l:List ax} {a:List Int} {c:Int} {F:Nat} (hc:qo F l) (ha:∀ i ∈ a,0≤i∧i.toNat<l.length) (hb:a.length<1000000) (z:ax):∀ (s p:List Int) (n:Nat),a=p++s→s.length<n →
  AI l (a,c) n (p.length:Int) (gR l p++List.replicate s.length z)=some (gR l a,0):=by
 intro s
 induction s with
 | nil =>
  intro p n hp hn
  cases n with
  | zero=>omega
  | succ n =>
   have:a=p:=by simpa using hp
   subst this
   simp only [AI,Gm,Int.lt_irrefl,decide_false,Bool.false_eq_true,if_false,List.length_nil,List.replicate_zero,List.append_nil]
 | cons x s ih =>
  intro p n hp hn
  cases n with
  | zero=>omega
  | succ n =>
   have hx:=ha x (by rw [hp]; simp)
   have tQ:(gR l p).length=p.length:=nu fun i hi=>(ha i (by rw [hp]; simp [hi])).2
   have hlen:p.length<1000000:=by rw [hp] at hb; simp at hb; omega
   have d1:decide ((p.length:Int)<(a.length:Int))=true:=by rw [hp]; exact Hn p x s
   have i1:idx a (p.length:Int)=some x:=by rw [hp]; exact jq p x s
   have i2:idx l x=some l[x.toNat]:=by rw [jd]; exact ⟨hx.1,by simp [hx.2]⟩
   simp only [AI,Gm,d1,if_true,i1,i2,Option.bind_some,List.length_cons,List.replicate_succ]
   have ll:=hc l[x.toNat] (List.getElem_mem hx.2)
   rw [py tQ,Option.bind_some,mj ll,Option.bind_some,rI tQ,py tQ,Option.bind_some,rI tQ]
   simp only [FH (show p.length<1000000000 by omega)]
   have e1:gR l p++l[x.toNat] :: List.replicate s.length z=gR l (p++[x])++List.replicate s.length z:=by simp [gR,hx.2]
   have e2:((p.length+1:Nat):Int)=((p++[x]).length:Int):=by simp
   rw [e1,e2]
   exact ih (p++[x]) n (by simp [hp]) (by simpa using hn)
theorem vn {F:Nat} (ME:10≤F) {l:List ax} (hc:qo F l) (hb:l.length<1000000) (hF:l.length<F):xS F l=some (gz (·.ar) l):=by
 unfold xS
 rw [o9 (p1:=fun a0=>BR a0) (p2:=fun a0 a1=>iy F a0 a1) ME hb hF (fun a _=>rfl) (fun a ha b _=>GJ (hc a ha))]
 rw [uu (Bl _ _)]
 simp only [Option.bind_some,gz]
 by_cases h:300<(G8 (·.ar) l).length
 ·simp [h]
 ·have hlen:=oa (l.map (·.ar)) (sf (·.ar) l)
  rw [List.length_map] at hlen
  simp only [h,if_false,bne_self_eq_false,Bool.false_eq_true]
  rw [vL (by omega)]
  simp only [Option.bind_some]
  rw [← Ex (Bl (·.ar) l)]
  refine Cl hc (fun i hi=>?_) (by omega) _ _ [] F rfl (Nat.lt_of_le_of_lt hlen hF)
  have:=pX hi
  exact ⟨this.1,by simpa using this.2⟩
theorem Ce {F:Nat} {l:List ax} (hc:qo F l) {i:Nat} (hi:i<l.length) (hb:l.length<1000000) (aH:Int→List aL→List Int→Option (List ax × Int)) (l2:List aL) (l3:List Int) (h2:l2.length<1000000) (h3:l3.length<1000000) :
  ∀ (k n:Nat),k≤i→k<n→AG aH F l i l2 l3 n ((k:Int)+((l.drop k).findIdx fun y=>decide (y=l[i]):Nat)) ((k:Int) - 1)=aH ((i+1:Nat):Int) (l2++[l[i].ar]) (l3++[((l.findIdx fun y=>decide (y=l[i]):Nat):Int)]):=by
 intro k
 induction k with
 | zero =>
  intro n hk hn
  cases n with
  | zero=>omega
  | succ n =>
   have d:decide (((0:Nat):Int) - 1 ≥ 0)=false:=by simp
   simp only [AG,Gj,d,Bool.false_eq_true,if_false,dx hi,Option.bind_some]
   rw [c8 (by simp; omega),Option.bind_some,c8 (by simp; omega),Option.bind_some,FH (by omega)]
   simp
 | succ k ih =>
  intro n hk hn
  cases n with
  | zero=>omega
  | succ n =>
   have d:decide (((k+1:Nat):Int) - 1 ≥ 0)=true:=by simp
   have e:((k+1:Nat):Int) - 1=(k:Int):=by omega
   have Hd:k<l.length:=by omega
   simp only [AG,Gj,d,if_true]
   rw [e]
   simp only [dx hi,dx Hd,Option.bind_some]
   rw [H9 (hc l[i] (List.getElem_mem hi))]
   simp only [Option.bind_some]
   rw [cQ (by omega) (by omega)]
   have hd:l.drop k=l[k] :: l.drop (k+1):=(List.drop_eq_getElem_cons Hd)
   have:=ih n (by omega) (by omega)
   rw [hd,List.findIdx_cons] at this
   by_cases h:l[i]=l[k]
   ·simp only [h,decide_true,if_true]
    simp only [h,decide_true,cond_true,Int.ofNat_zero,Int.add_zero] at this
    exact this
   ·simp only [h,decide_false,Bool.false_eq_true,if_false]
    simp only [Ne.symm h,decide_false,cond_false] at this
    rw [← this]
    congr 1
    omega
theorem CY {l:List ax} {a:List Int} {c:Int} (ha:∀ i ∈ a,0≤i∧i.toNat<l.length) (hb:a.length<1000000):∀ (s p:List Int) (n:Nat),a=p++s→s.length<n →
  AH l (a,c) n (p.length:Int) (gR l p)=some (gR l a,0):=by
 intro s
 induction s with
 | nil =>
  intro p n hp hn
  cases n with
  | zero=>omega
  | succ n =>
   have:a=p:=by simpa using hp
   subst this
   simp only [AH,Gk,Int.lt_irrefl,decide_false,Bool.false_eq_true,if_false]
 | cons x s ih =>
  intro p n hp hn
  cases n with
  | zero=>omega
  | succ n =>
   have hx:=ha x (by rw [hp]; simp)
   have tQ:(gR l p).length=p.length:=nu fun i hi=>(ha i (by rw [hp]; simp [hi])).2
   have hlen:p.length<1000000:=by rw [hp] at hb; simp at hb; omega
   have d1:decide ((p.length:Int)<(a.length:Int))=true:=by rw [hp]; exact Hn p x s
   have i1:idx a (p.length:Int)=some x:=by rw [hp]; exact jq p x s
   have i2:idx l x=some l[x.toNat]:=by rw [jd]; exact ⟨hx.1,by simp [hx.2]⟩
   simp only [AH,Gk,d1,if_true,i1,i2,Option.bind_some]
   rw [c8 (by simp; omega)]
   simp only [Option.bind_some,FH (show p.length<1000000000 by omega)]
   have e1:gR l p++[l[x.toNat]]=gR l (p++[x]):=by simp [gR,hx.2]
   have e2:((p.length+1:Nat):Int)=((p++[x]).length:Int):=by simp
   rw [e1,e2]
   exact ih (p++[x]) n (by simp [hp]) (by simpa using hn)
theorem qW {F:Nat} {l:List ax} (hc:qo F l) (hb:l.length<1000000) (hF:l.length<F):∀ (j n i:Nat),i+j=l.length→j<n →
  yt F l n (i:Int) ((l.take i).map (·.ar)) ((mn l).take i)=some (gz (·.ar) l):=by
 intro j
 induction j with
 | zero =>
  intro n i rA hn
  cases n with
  | zero=>omega
  | succ n =>
   have hi:i=l.length:=by omega
   subst hi
   have hc:(mn l).take l.length=mn l:=List.take_of_length_le (by simp [mn])
   simp only [yt,Gi,Int.lt_irrefl,decide_false,Bool.false_eq_true,if_false,List.take_length,hc]
   rw [tu (by simpa using hb) (by simpa using hF),uu (vr _ _)]
   simp only [Option.bind_some,gz]
   by_cases h:300<(G8 (·.ar) l).length
   ·simp [h]
   ·have hlen:=oa (l.map (·.ar)) (mn l)
    rw [List.length_map] at hlen
    simp only [h,if_false,bne_self_eq_false,Bool.false_eq_true]
    refine CY (fun i hi=>?_) (by omega) _ [] F rfl (Nat.lt_of_le_of_lt hlen hF)
    have:=pX hi
    exact ⟨this.1,by simpa using this.2⟩
 | succ j ih =>
  intro n i rA hn
  cases n with
  | zero=>omega
  | succ n =>
   have hi:i<l.length:=by omega
   have d1:decide ((i:Int)<(l.length:Int))=true:=by simp; omega
   simp only [yt,Gi,d1,if_true]
   have Rw:=Ce hc hi hb (yt F l n) ((l.take i).map (·.ar)) ((mn l).take i) (by simp; omega) (by simp [mn]; omega) i F (by omega) (by omega)
   have h0:(l.drop i).findIdx (fun y=>decide (y=l[i]))=0:=by rw [List.drop_eq_getElem_cons hi,List.findIdx_cons]; simp
   rw [h0] at Rw
   simp only [Int.ofNat_zero,Int.add_zero] at Rw
   rw [cQ (by omega) (by omega),Rw]
   have e1:(l.take i).map (·.ar)++[l[i].ar]=(l.take (i+1)).map (·.ar):=by
    rw [List.take_add_one,List.map_append]; simp [hi,-List.map_take]
   have e2:(mn l).take i++[((l.findIdx fun y=>decide (y=l[i]):Nat):Int)]=(mn l).take (i+1):=by rw [List.take_add_one]; simp [mn,hi]
   rw [e1,e2]
   exact ih n (i+1) (by omega) (by omega)
theorem vo {F:Nat} {l:List ax} (hc:qo F l) (hb:l.length<1000000) (hF:l.length<F):BU F l=some (gz (·.ar) l) :=
 qW hc hb hF l.length F 0 (by omega) hF
end Go.Sh
namespace Go.Sh
open Go.L
theorem u4 (a b:Bool):(if a=true then some true else some b)=some (a || b):=by cases a <;> rfl
theorem wP (a b:Int):(a == b)=decide (a=b):=by rw [Bool.eq_iff_iff]; simp
def CZ (s:ByteArray):Bool:=s.data.toList.all fun b=>!(decide ((b.toNat:Int)<32) || decide ((b.toNat:Int) > 126))
theorem Jz {s:ByteArray} {i:Nat} {b:UInt8} (h:s.data.toList[i]?=some b):yL s (i:Int)=some (b.toNat:Int):=by
 unfold yL
 simp only [show (0:Int)≤(i:Int) by omega,if_true,Int.toNat_natCast,h,Option.map_some]
theorem xC {F:Nat} {s:ByteArray} (hb:s.size<1000000) (hF:s.size<F):xV F s=some (CZ s):=by
 unfold xV CZ
 have eY:(s.size:Int)=(s.data.toList.length:Int):=by
  show ((s.data.size:Nat):Int)=_
  rw [Array.length_toList]
 have hl:s.data.toList.length=s.size:=Array.length_toList
 refine Bg (L:=AJ s) (fun b:UInt8=>!(decide ((b.toNat:Int)<32) || decide ((b.toNat:Int) > 126))) (by omega) (fun n i x hx hi=>?_) (fun n=>?_) (by omega)
 ·simp only [AJ,Gn,eY,jT hx,if_true,Jz hx,Option.bind_some,jH hi,u4]
  cases (decide ((x.toNat:Int)<32) || decide ((x.toNat:Int) > 126)) <;> simp
 ·simp only [AJ,Gn,eY,jC,Bool.false_eq_true,if_false]
def rj (p:ao):Bool:=!(decide (p.Max<1) || (decide (p.Max > 40) || (decide (p.e5<0) || (decide (p.e5 ≥ 16) || (decide (p.cg<0) || decide (p.cg ≥ 6)))))) &&
 (if p.Kind=1 then decide (p.Options=0) && decide (p.Key=0) else decide (p.Kind=2) && (decide (p.Options ≥ 2) && (decide (p.Options≤5) && (decide (p.Key ≥ 0) && decide (p.Key<p.Options)))))
theorem za (p:ao):xU p=some (rj p):=by
 unfold xU rj
 cases (decide (p.Max<1) || (decide (p.Max > 40) || (decide (p.e5<0) || (decide (p.e5 ≥ 16) || (decide (p.cg<0) || decide (p.cg ≥ 6)))))) with
 | true=>simp
 | false =>
  by_cases h1:p.Kind=1
  ·simp only [h1,Bool.false_eq_true,if_false,if_true,beq_self_eq_true,Bool.not_false,Bool.true_and,wP]
  ·by_cases h2:p.Kind=2
   ·simp [h1,h2]
   ·simp [h1,h2]
def ur (id:Int) (l:List Int) (i:Nat) (x:Int):Bool:=!(decide (x ≥ 0) && decide (x≤9999)) || (decide (x=id) || (decide (0<i) && decide (l.getD (i - 1) 0 ≥ x)))
def s6 (id:Int) (l:List Int):Bool:=scan (fun i x=>if ur id l i x=true then some false else .none) true 0 l
theorem Ji {l:List Int} {i:Nat} {x:Int} (hi:i<1000000) (hx:l[i]?=some x) (h0:0<i):idx l (i64 ((i:Int) - 1))=some (l.getD (i - 1) 0):=by
 have h1:=(List.getElem?_eq_some_iff.1 hx).1
 rw [cQ (by omega) (by omega),show (i:Int) - 1=((i - 1:Nat):Int) by omega,ni]
 simp [show i - 1<l.length by omega]
theorem Ci {F:Nat} {id:Int} {l:List Int} (hb:l.length<1000000) (hF:l.length<F):Gv F id l=some (s6 id l):=by
 unfold Gv s6
 refine gx _ _ hb (fun n i x hx hi=>?_) (fun n=>?_) hF
 ·simp only [C7,Gc,jT hx,if_true,jY hx,Option.bind_some,uW,jH hi]
  unfold ur
  by_cases h0:0<i
  ·have d:decide ((i:Int) > 0)=true:=by simp; exact h0
   simp only [d,if_true,Ji hi hx h0,Option.bind_some,u4,h0,decide_true,Bool.true_and,wP]
   cases (!(decide (x ≥ 0) && decide (x≤9999)) || (decide (x=id) || decide (l.getD (i - 1) 0 ≥ x))) <;> simp
  ·have d:decide ((i:Int) > 0)=false:=by simp; omega
   simp only [d,Bool.false_eq_true,if_false,Option.bind_some,u4,h0,decide_false,Bool.false_and,wP]
   cases (!(decide (x ≥ 0) && decide (x≤9999)) || (decide (x=id) || false)) <;> simp
 ·simp only [C7,Gc,jC,Bool.false_eq_true,if_false]
def iW (x:ai):Int :=
 if (!(decide (x.ID ≥ 0) && decide (x.ID≤9999)) || (decide (x.Version<1) || decide (x.Version > 8)))=true then 2
 else if (decide ((x.bD.size:Int) > 40) || (decide ((x.aI.length:Int) > 6) || decide ((x.aD.length:Int) > 8)))=true then 3
 else if (decide (x.bD=ByteArray.mk #[]) || !(CZ x.bD))=true then 7
 else if x.aI=[] then 10
 else if x.aI.all rj=true then (if s6 x.ID x.aD=true then 0 else 9) else 1
theorem u7 {α R:Type} (f:α→Bool) (c e:R):∀ (l:List α) (i:Nat),scan (fun _ x=>if f x=true then .none else some c) e i l=if l.all f=true then e else c
 | [],i=>rfl
 | x :: l,i=>by
  unfold scan
  rw [List.all_cons]
  cases hf:f x with
  | true=>simp [u7 f c e l]
  | false=>simp
theorem vp {F:Nat} {x:ai} (hF:50<F):tq F x=some (iW x):=by
 unfold tq iW uW
 simp only [Option.bind_some,u4]
 cases h1:(!(decide (x.ID ≥ 0) && decide (x.ID≤9999)) || (decide (x.Version<1) || decide (x.Version > 8))) with
 | true=>simp
 | false =>
  simp only [Bool.false_eq_true,if_false]
  cases h2:(decide ((x.bD.size:Int) > 40) || (decide ((x.aI.length:Int) > 6) || decide ((x.aD.length:Int) > 8))) with
  | true=>simp
  | false =>
   simp only [Bool.or_eq_false_iff,decide_eq_false_iff_not] at h2
   simp only [Bool.false_eq_true,if_false]
   rw [xC (by omega) (by omega)]
   simp only [Option.bind_some,u4]
   cases (decide (x.bD=ByteArray.mk #[]) || !(CZ x.bD)) with
   | true=>simp
   | false =>
    simp only [Bool.false_eq_true,if_false]
    by_cases h3:x.aI=[]
    ·simp [h3]
    ·have h4:((x.aI.length:Int) == 0)=false:=by
      rw [beq_eq_false_iff_ne]; intro h; exact h3 (List.eq_nil_of_length_eq_zero (by omega))
     simp only [h3,h4,Bool.false_eq_true,if_false]
     rw [← u7 rj (1:Int) (if s6 x.ID x.aD=true then 0 else 9) x.aI 0]
     refine gx _ _ (by omega) (fun n i y hy hi=>?_) (fun n=>?_) (by omega)
     ·simp only [uV,xO,jT hy,if_true,jY hy,Option.bind_some,jH hi,za]
      cases rj y <;> simp
     ·simp only [uV,xO,jC,Bool.false_eq_true,if_false]
      rw [Ci (by omega) (by omega)]
      cases s6 x.ID x.aD <;> simp
theorem vq {F:Nat} {x:ai} (hF:50<F) (h:iW x=0):G6 F x∧0≤x.ID∧x.ID≤9999∧1≤x.Version∧x.Version≤8:=by
 unfold iW at h
 by_cases h1:(!(decide (x.ID ≥ 0) && decide (x.ID≤9999)) || (decide (x.Version<1) || decide (x.Version > 8)))=true
 ·rw [if_pos h1] at h; simp at h
 ·rw [if_neg h1] at h
  by_cases h2:(decide ((x.bD.size:Int) > 40) || (decide ((x.aI.length:Int) > 6) || decide ((x.aD.length:Int) > 8)))=true
  ·rw [if_pos h2] at h; simp at h
  ·simp only [Bool.not_eq_true,Bool.or_eq_false_iff,decide_eq_false_iff_not,Bool.not_eq_false',Bool.and_eq_true,decide_eq_true_eq] at h1 h2
   refine ⟨⟨⟨?_,?_⟩,?_,?_⟩,?_,?_,?_,?_⟩ <;> omega
def iU (l:List aq):Prop:=l.Pairwise fun a b=>a.ID<b.ID
def cu (l:List aq) (n:Int):Option Nat:=l.findIdx? fun b=>b.ID == n
def jB (l:List aq) (n:Int):Nat:=(l.takeWhile fun b=>decide (b.ID<n)).length
theorem nd (l:List aq) (n:Int):jB l n≤l.length:=(List.takeWhile_sublist _).length_le
theorem sj {l:List aq} (hs:iU l) (n:Int):∀ q (hq:q<l.length),q<jB l n ↔ l[q].ID<n:=by
 induction l with
 | nil=>intro q hq; simp at hq
 | cons x s ih =>
  have E6:=List.pairwise_cons.1 hs
  intro q hq
  unfold jB
  by_cases hx:x.ID<n
  ·rw [List.takeWhile_cons_of_pos (by simpa using hx)]
   cases q with
   | zero=>simp [hx]
   | succ q=>have:=ih E6.2 q (by simpa using hq); unfold jB at this; simpa using this
  ·rw [List.takeWhile_cons_of_neg (by simpa using hx)]
   cases q with
   | zero=>simp; omega
   | succ q =>
    have oW:q<s.length:=by simpa using hq
    have:=E6.1 s[q] (List.getElem_mem _)
    simp; omega
theorem OZ {a b:Nat} (h:a+b<1000000000):i64 (oQ .u64 (IntKind.u64.wrap (i64 ((a:Int)+b))) 1)=(((a+b) / 2:Nat):Int):=by
 rw [cQ (n:=(a:Int)+b) (by omega) (by omega)]
 have h1:IntKind.u64.wrap ((a:Int)+b)=(a:Int)+b:=by
  unfold IntKind.wrap
  simp only [IntKind.bits,IntKind.signed]
  first | omega | (simp; omega)
 rw [h1]
 have h2:oQ .u64 ((a:Int)+b) 1=((a:Int)+b) / 2:=by
  unfold oQ
  simp only [IntKind.bits]
  rw [show (2:Int) ^ min (1:Int).toNat 64=2 from rfl]
  rw [Int.fdiv_eq_ediv_of_nonneg _ (by omega)]
 rw [h2,cQ (by omega) (by omega)]
 omega
theorem vm {l:List aq} {x:Int} {p2:aq→Int→Option Int} {f:aq→Int} {k:Nat} (hb:l.length<1000000) (hk:k≤l.length) (hf:∀ y ∈ l,p2 y x=some (f y)) (h:∀ q (hq:q<l.length),q<k ↔ f l[q]<0) :
  ∀ n (a b:Nat),a≤k→k≤b→b≤l.length→b - a<n→Mm l x p2 n a b=some ((k:Int),match l[k]? with | some y=>f y == 0 | .none=>false):=by
 intro n
 induction n with
 | zero=>intro a b _ _ _ h; omega
 | succ n ih =>
  intro a b ha Vn TQ hn
  simp only [Mm,QN]
  by_cases pd:a<b
  ·have d:decide ((a:Int)<(b:Int))=true:=by simp; exact pd
   have hm:(a+b) / 2<l.length:=by omega
   simp only [d,if_true,OZ (show a+b<1000000000 by omega),dx hm,Option.bind_some,hf _ (List.getElem_mem hm)]
   by_cases dN:f l[(a+b) / 2]<0
   ·have:=(h _ hm).2 dN
    simp only [dN,decide_true,if_true,FH (show (a+b) / 2<1000000000 by omega)]
    exact ih _ _ (by omega) Vn TQ (by omega)
   ·have:¬ (a+b) / 2<k:=fun hc=>dN ((h _ hm).1 hc)
    simp only [dN,decide_false,Bool.false_eq_true,if_false]
    exact ih _ _ ha (by omega) (by omega) (by omega)
  ·have d:decide ((a:Int)<(b:Int))=false:=by simp; omega
   have U5:a=k:=by omega
   subst U5
   simp only [d,Bool.false_eq_true,if_false]
   by_cases zg:a<l.length
   ·have d2:decide ((a:Int)<(l.length:Int))=true:=by simp; exact zg
    simp only [d2,if_true,dx zg,Option.bind_some,hf _ (List.getElem_mem zg),List.getElem?_eq_getElem zg]
   ·have d2:decide ((a:Int)<(l.length:Int))=false:=by simp; omega
    simp only [d2,Bool.false_eq_true,if_false,Option.bind_some,List.getElem?_eq_none (show l.length≤a by omega)]
theorem uS {l:List aq} (hs:iU l) (c:Int):cu l c=if (match l[jB l c]? with | some y=>kW y.ID c == 0 | .none=>false)=true then some (jB l c) else .none:=by
 have h:=sj hs c
 have hk:=nd l c
 generalize jB l c=k at h hk
 by_cases Hd:k<l.length
 ·rw [List.getElem?_eq_getElem Hd]
  simp only [beq_iff_eq,jM]
  split
  ·rename_i hc
   unfold cu
   rw [List.findIdx?_eq_some_iff_getElem]
   refine ⟨Hd,by simpa using hc,fun j hj=>?_⟩
   have:=(h j (by omega)).1 hj
   simp; omega
  ·rename_i hc
   unfold cu
   rw [List.findIdx?_eq_none_iff]
   intro y hy
   obtain ⟨q,hq,rfl⟩:=List.getElem_of_mem hy
   have h2:=h q hq
   rcases Nat.lt_trichotomy q k with RX | rfl | RX
   ·have:=h2.1 RX; simp; omega
   ·simpa using hc
   ·have h3:=List.pairwise_iff_getElem.1 hs k q Hd hq RX
    have h4:=h k Hd
    simp; omega
 ·rw [List.getElem?_eq_none (by omega)]
  simp only [Bool.false_eq_true,if_false]
  unfold cu
  rw [List.findIdx?_eq_none_iff]
  intro y hy
  obtain ⟨q,hq,rfl⟩:=List.getElem_of_mem hy
  have:=(h q hq).1 (by omega)
  simp; omega
theorem te {l:List aq} (hs:iU l) {c:Int} {j:Nat} (h:cu l c=some j):j=jB l c:=by
 rw [uS hs] at h
 by_cases hc:(match l[jB l c]? with | some y=>kW y.ID c == 0 | .none=>false)=true
 ·rw [if_pos hc] at h; exact (Option.some.inj h).symm
 ·rw [if_neg hc] at h; cases h
theorem dV {l:List aq} {c:Int} {j:Nat} (h:cu l c=some j):∃ hj:j<l.length,l[j].ID=c:=by
 unfold cu at h
 rw [List.findIdx?_eq_some_iff_getElem] at h
 exact ⟨h.1,by simpa using h.2.1⟩
theorem UI {F:Nat} {l:List aq} {c:Int} (hs:iU l) (hb:l.length<1000000) (G9:l.length<F) :
  PU F l c (fun a0 a1=>tj a0 a1)=some ((jB l c:Int),(cu l c).isSome):=by
 have h1:∀ y ∈ l,tj y c=some (kW y.ID c):=fun y _=>by simp [tj,na]
 have hl:=vm (l:=l) (x:=c) (p2:=fun a0 a1=>tj a0 a1) (f:=fun y=>kW y.ID c) hb (nd l c) h1 (fun q hq=>by rw [sj hs c q hq,o8]) F 0 l.length (by omega) (nd l c) (by omega) (by omega)
 unfold PU
 rw [show (0:Int)=((0:Nat):Int) from rfl,hl,uS hs]
 congr 2
 cases hc:(match l[jB l c]? with | some y=>kW y.ID c == 0 | .none=>false) <;> simp
end Go.Sh
namespace Go.Sh
open Go.L
structure rS (r:aq):Prop where
 n1:1≤r.ae.length
 n8:r.ae.length≤8
 ap:r.ah.length=r.ae.length
 us:r.Uses.length≤300
 vs:∀ (i:Nat) x,r.ae[i]?=some x→iW x=0∧x.ID=r.ID∧x.Version=(i:Int)+1
 uv:∀ u ∈ r.Uses,1≤u.Version∧u.Version≤r.ae.length
structure gZ (l:List aq):Prop where
 len:l.length≤40
 sort:iU l
 ok:∀ r ∈ l,rS r
def nZ (e:ax) (r:aq):Prop:=e.Ref.Version<1 ∨ e.Ref.Version > r.ae.length
instance (e:ax) (r:aq):Decidable (nZ e r):=by unfold nZ; infer_instance
def qV (e:ax) (r:aq):Bool:=r.ah.getD (e.Ref.Version - 1).toNat false
def jU (r:aq) (e:ax):Int × aq :=
 if e.Kind=2 then (if r.ab=true ∨ e.Item.Version ≠ (r.ae.length:Int)+1 then (8,r) else (0,⟨r.ID,r.ae++[e.Item],r.ah++[false],r.Uses,r.ab⟩))
 else if e.Kind=3 then (if nZ e r then (4,r) else if r.ab=true then (8,r) else if qV e r=true then (5,r) else (0,⟨r.ID,r.ae,r.ah.set (e.Ref.Version - 1).toNat true,r.Uses,r.ab⟩))
 else if e.Kind=4 then (if nZ e r then (4,r) else if r.ab=true ∨ qV e r=false then (8,r) else if r.Uses.any (fun u=>u.Form == e.Form)=true then (5,r) else if 300≤r.Uses.length then (3,r) else (0,⟨r.ID,r.ae,r.ah,r.Uses++[⟨e.Ref.Version,e.Form,e.ar.Time⟩],r.ab⟩))
 else (if r.ab=decide (e.Kind=5) then (8,r) else (0,⟨r.ID,r.ae,r.ah,r.Uses,decide (e.Kind=5)⟩))
def GQ (e:ax):Int:=if e.Kind=2 then e.Item.ID else e.Ref.ID
def NV (l:List aq) (e:ax):List aq:=l.take (jB l e.Item.ID)++[⟨e.Item.ID,[e.Item],[false],[],false⟩]++l.drop (jB l e.Item.ID)
def kK (l:List aq) (e:ax):Int × List aq :=
 if iW e.Item ≠ 0 then (iW e.Item,l) else if e.Item.Version ≠ 1 then (8,l) else if (cu l e.Item.ID).isSome=true then (5,l) else if 40≤l.length then (3,l) else (0,NV l e)
def kY (l:List aq) (e:ax):Int × List aq :=
 match cu l (GQ e) with
 | .none=>(4,l)
 | some k=>match l[k]? with
  | .none=>(4,l)
  | some r=>if (jU r e).1=0 then (0,l.set k (jU r e).2) else ((jU r e).1,l)
def cW (l:List aq) (e:ax):Int × List aq :=
 if e.Kind=1 then kK l e
 else if e.Kind=2 then (if iW e.Item ≠ 0 then (iW e.Item,l) else kY l e)
 else if e.Kind=3 ∨ e.Kind=4 ∨ e.Kind=5 ∨ e.Kind=6 then kY l e
 else (2,l)
theorem BP {F:Nat} {l:List aq} {c:Int} (h:gZ l) (hF:400<F):u1 F ⟨l⟩ c=some ((jB l c:Int),(cu l c).isSome):=by
 unfold u1
 rw [UI h.sort (by have:=h.len; omega) (by have:=h.len; omega)]; rfl
theorem tt {F:Nat} {l:List aq} {c:Int} (h:gZ l) (hF:400<F):tl F ⟨l⟩ c=some ((cu l c).map Int.ofNat):=by
 unfold tl
 rw [BP h hF]
 simp only [Option.bind_some]
 cases hp:cu l c with
 | none=>simp
 | some j =>
  obtain ⟨iu,_⟩:=dV hp
  simp only [Option.isSome_some,Bool.not_true,Bool.false_eq_true,if_false]
  rw [← te h.sort hp,dx iu]
  rfl
theorem vd {F:Nat} {l:List aq} {e:ax} (h:gZ l) (hF:400<F):uZ F ⟨l⟩ e.Ref=some (match cu l e.Ref.ID with | .none=>.none | some j=>match l[j]? with | .none=>.none | some r=>if nZ e r then .none else some (j:Int)):=by
 unfold uZ
 rw [tt h hF]
 simp only [Option.bind_some]
 cases hp:cu l e.Ref.ID with
 | none=>rfl
 | some j =>
  obtain ⟨iu,_⟩:=dV hp
  simp only [Option.map_some,pF,List.getElem?_eq_getElem iu]
  rw [show Int.ofNat j=(j:Int) from rfl,dx iu]
  simp only [Option.bind_some,nZ,Bool.or_eq_true,decide_eq_true_eq]
  split
  ·rename_i hh; simp only [hh,if_true]
  ·rename_i hh; simp only [hh,if_false]
theorem Ho {F:Nat} {l:List aq} {e:ax} (h:gZ l) (hF:400<F):yn F ⟨l⟩ e=some ((kK l e).1,⟨(kK l e).2⟩):=by
 unfold yn kK
 rw [vp (by omega),BP h hF]
 simp only [Option.bind_some]
 by_cases h1:iW e.Item=0
 ·have Sm:=(vq (F:=F) (by omega) h1).1
  simp only [h1,bne_self_eq_false,Bool.false_eq_true,if_false,ne_eq,not_true_eq_false]
  by_cases h2:e.Item.Version=1
  ·simp only [h2,bne_self_eq_false,Bool.false_eq_true,if_false,not_true_eq_false]
   by_cases h3:(cu l e.Item.ID).isSome=true
   ·simp only [h3,if_true]
   ·simp only [h3,if_false,Bool.false_eq_true]
    by_cases h4:40≤l.length
    ·have d:decide ((l.length:Int) ≥ 40)=true:=by simp; omega
     simp only [d,h4,if_true]
    ·have d:decide ((l.length:Int) ≥ 40)=false:=by simp; omega
     simp only [d,h4,if_false,Bool.false_eq_true,mj Sm,Option.bind_some]
     unfold HO
     have hc:=nd l e.Item.ID
     rw [if_pos (by have:=h.len; constructor <;> omega)]
     rfl
  ·have d:(e.Item.Version != 1)=true:=by simp [h2]
   simp only [d,h2,if_true,not_false_eq_true]
 ·have d:(iW e.Item != 0)=true:=by simp [h1]
  simp only [d,h1,if_true,ne_eq,not_false_eq_true]
theorem GG {F:Nat} {l:List aq} {e:ax} (h:gZ l) (hF:400<F) (hk:e.Kind=2):yh F ⟨l⟩ e=some ((cW l e).1,⟨(cW l e).2⟩):=by
 unfold yh cW
 rw [vp (by omega),tt h hF]
 simp only [Option.bind_some,hk,show ¬ ((2:Int)=1) by omega,if_false,if_true]
 by_cases h1:iW e.Item=0
 ·have Sm:=(vq (F:=F) (by omega) h1).1
  simp only [h1,bne_self_eq_false,Bool.false_eq_true,if_false,ne_eq,not_true_eq_false]
  unfold kY
  simp only [GQ,hk,if_true]
  cases hp:cu l e.Item.ID with
  | none=>rfl
  | some j =>
   obtain ⟨iu,_⟩:=dV hp
   have hr:=h.ok l[j] (List.getElem_mem iu)
   simp only [Option.map_some,pF,List.getElem?_eq_getElem iu]
   rw [show Int.ofNat j=(j:Int) from rfl,dx iu]
   simp only [Option.bind_some,jU,hk,if_true]
   have hw:i64 ((l[j].ae.length:Int)+1)=(l[j].ae.length:Int)+1:=by have:=hr.n8; rw [cQ (by omega) (by omega)]
   rw [hw]
   by_cases h2:l[j].ab=true ∨ e.Item.Version ≠ (l[j].ae.length:Int)+1
   ·have d:(l[j].ab || e.Item.Version != (l[j].ae.length:Int)+1)=true:=by simpa using h2
    simp only [d,if_true,h2,show ¬ ((8:Int)=0) by omega,if_false]
   ·have d:(l[j].ab || e.Item.Version != (l[j].ae.length:Int)+1)=false:=by simpa using h2
    simp only [d,Bool.false_eq_true,if_false,h2,mj Sm,Option.bind_some]
    rw [c8 (by simp; have:=hr.n8; omega),Option.bind_some,c8 (by simp; have:=hr.n8; have:=hr.ap; omega)]
    simp
 ·have d:(iW e.Item != 0)=true:=by simp [h1]
  simp only [d,h1,if_true,ne_eq,not_false_eq_true]
theorem Bh {e:ax} {r:aq} (hr:rS r) (h:¬ nZ e r):idx r.ah (i64 (e.Ref.Version - 1))=some (qV e r)∧i64 (e.Ref.Version - 1)=e.Ref.Version - 1:=by
 unfold nZ at h
 have:=hr.n8
 have ha:=hr.ap
 have hw:i64 (e.Ref.Version - 1)=e.Ref.Version - 1:=by rw [cQ (by omega) (by omega)]
 refine ⟨?_,hw⟩
 rw [hw]
 unfold qV
 rw [jd]
 refine ⟨by omega,?_⟩
 have:(e.Ref.Version - 1).toNat<r.ah.length:=by omega
 rw [List.getD_eq_getElem?_getD,List.getElem?_eq_getElem this]; rfl
theorem Cd {F:Nat} {l:List aq} {e:ax} (h:gZ l) (hF:400<F) (hk:e.Kind=3):ye F ⟨l⟩ e=some ((cW l e).1,⟨(cW l e).2⟩):=by
 unfold ye cW kY
 rw [vd h hF]
 simp only [Option.bind_some,hk,GQ,show ¬ ((3:Int)=1) by omega,show ¬ ((3:Int)=2) by omega,if_false,true_or,if_true]
 cases hp:cu l e.Ref.ID with
 | none=>rfl
 | some j =>
  obtain ⟨iu,_⟩:=dV hp
  have hr:=h.ok l[j] (List.getElem_mem iu)
  simp only [List.getElem?_eq_getElem iu,jU,hk,show ¬ ((3:Int)=2) by omega,if_false,if_true]
  by_cases hb:nZ e l[j]
  ·simp only [hb,if_true,pF,show ¬ ((4:Int)=0) by omega,if_false]
  ·obtain ⟨q1,q2⟩:=Bh hr hb
   simp only [hb,if_false,pF,dx iu,Option.bind_some]
   by_cases hw:l[j].ab=true
   ·simp only [hw,if_true,show ¬ ((8:Int)=0) by omega,if_false]
   ·simp only [hw,if_false,q1,Option.bind_some,Bool.false_eq_true]
    by_cases ha:qV e l[j]=true
    ·simp only [ha,if_true,show ¬ ((5:Int)=0) by omega,if_false]
    ·simp only [ha,if_false,Bool.false_eq_true,q2,if_true]
     rfl
theorem GX {F:Nat} {l:List az} {p:az→Option Bool} (f:az→Bool) (hp:∀ u ∈ l,p u=some (f u)) (hb:l.length<1000000) (hF:l.length<F):C1 F l p=some (l.any f):=by
 unfold C1 H5
 rw [gx (a:=l) (L:=LA l p) (fun i x=>if f x=true then some (i:Int) else .none) (-1) hb (fun n i x hx hi=>?_) (fun n=>?_) hF]
 ·simp only [Option.bind_some]
  congr 1
  have key:∀ (l:List az) (i:Nat),decide (scan (fun i x=>if f x=true then some (i:Int) else .none) (-1:Int) i l ≥ 0)=l.any f:=by
   intro l
   induction l with
   | nil=>intro i; rfl
   | cons x l ih =>
    intro i
    unfold scan
    rw [List.any_cons]
    cases hf:f x with
    | true=>simp
    | false=>simp only [Bool.false_eq_true,if_false,Bool.false_or]; exact ih (i+1)
  exact key l 0
 ·simp only [LA,F2,jT hx,if_true,jY hx,Option.bind_some,jH hi,hp x (List.mem_of_getElem? hx)]
  cases f x <;> simp
 ·simp only [LA,F2,jC,Bool.false_eq_true,if_false]
theorem Qg {F:Nat} {l:List aq} {e:ax} (h:gZ l) (hF:400<F) (hk:e.Kind=4):mi F ⟨l⟩ e=some ((cW l e).1,⟨(cW l e).2⟩):=by
 unfold mi cW kY
 rw [vd h hF]
 simp only [Option.bind_some,hk,GQ,show ¬ ((4:Int)=1) by omega,show ¬ ((4:Int)=2) by omega,show ¬ ((4:Int)=3) by omega,if_false,true_or,or_true,if_true]
 cases hp:cu l e.Ref.ID with
 | none=>rfl
 | some j =>
  obtain ⟨iu,_⟩:=dV hp
  have hr:=h.ok l[j] (List.getElem_mem iu)
  simp only [List.getElem?_eq_getElem iu,jU,hk,show ¬ ((4:Int)=2) by omega,show ¬ ((4:Int)=3) by omega,if_false,if_true]
  by_cases hb:nZ e l[j]
  ·simp only [hb,if_true,pF,show ¬ ((4:Int)=0) by omega,if_false]
  ·obtain ⟨q1,q2⟩:=Bh hr hb
   simp only [hb,if_false,pF,dx iu,Option.bind_some,q1,u4]
   have hu:=hr.us
   by_cases hw:l[j].ab=true ∨ qV e l[j]=false
   ·have d:(l[j].ab || !(qV e l[j]))=true:=by simpa using hw
    simp only [d,hw,if_true,show ¬ ((8:Int)=0) by omega,if_false]
   ·have d:(l[j].ab || !(qV e l[j]))=false:=by simpa using hw
    simp only [d,hw,if_false,Bool.false_eq_true]
    rw [GX (p:=fun a0=>B0 a0 e) (fun u=>u.Form == e.Form) (fun u _=>rfl) (by omega) (by omega)]
    simp only [Option.bind_some]
    by_cases ha:(l[j].Uses.any fun u=>u.Form == e.Form)=true
    ·simp only [ha,if_true,show ¬ ((5:Int)=0) by omega,if_false]
    ·simp only [ha,if_false,Bool.false_eq_true]
     by_cases h3:300≤l[j].Uses.length
     ·have d3:decide ((l[j].Uses.length:Int) ≥ 300)=true:=by simp; omega
      simp only [d3,h3,if_true,show ¬ ((3:Int)=0) by omega,if_false]
     ·have d3:decide ((l[j].Uses.length:Int) ≥ 300)=false:=by simp; omega
      simp only [d3,h3,if_false,Bool.false_eq_true,if_true]
      rw [c8 (by simp; omega)]
      rfl
theorem tM {F:Nat} {l:List aq} {e:ax} (h:gZ l) (hF:400<F) (hk:e.Kind=5 ∨ e.Kind=6):C8 F ⟨l⟩ e (decide (e.Kind=5))=some ((cW l e).1,⟨(cW l e).2⟩):=by
 have n1:¬ e.Kind=1:=by omega
 have n2:¬ e.Kind=2:=by omega
 have n3:¬ e.Kind=3:=by omega
 have n4:¬ e.Kind=4:=by omega
 unfold C8 cW kY
 rw [tt h hF]
 simp only [Option.bind_some,n1,n2,n3,n4,hk,GQ,if_false,false_or,if_true]
 cases hp:cu l e.Ref.ID with
 | none=>rfl
 | some j =>
  obtain ⟨iu,_⟩:=dV hp
  simp only [Option.map_some,List.getElem?_eq_getElem iu,jU,n2,n3,n4,if_false,pF]
  rw [show Int.ofNat j=(j:Int) from rfl,dx iu]
  simp only [Option.bind_some,beq_iff_eq]
  by_cases hw:l[j].ab=decide (e.Kind=5)
  ·simp only [hw,if_true,show ¬ ((8:Int)=0) by omega,if_false]
  ·simp only [hw,if_false,if_true]
   rfl
theorem Dw {l:List aq} (hs:iU l) {k:Nat} (hk:k<l.length) {b:aq} (hb:b.ID=l[k].ID):iU (l.set k b):=by
 unfold iU at *
 rw [List.pairwise_iff_getElem] at hs ⊢
 intro i j hi hj rA
 rw [List.getElem_set,List.getElem_set]
 have gV:i<l.length:=by simpa using hi
 have EN:j<l.length:=by simpa using hj
 split
 ·rename_i h1
  split
  ·omega
  ·subst h1; rw [hb]; exact hs _ _ gV EN rA
 ·split
  ·rename_i h1 h2; subst h2; rw [hb]; exact hs _ _ gV EN rA
  ·exact hs _ _ gV EN rA
theorem qF {l:List aq} {n:Int} (h:cu l n=.none):∀ x ∈ l,x.ID ≠ n:=fun x hx hn=>by
 unfold cu at h
 rw [List.findIdx?_eq_none_iff] at h
 have:=h x hx
 simp [hn] at this
theorem Dv {l:List aq} (hs:iU l) {n:Int} (hn:cu l n=.none) {b:aq} (hb:b.ID=n):iU (l.take (jB l n)++[b]++l.drop (jB l n)):=by
 have hc:=sj hs n
 have hk:=nd l n
 have ep:=qF hn
 generalize jB l n=k at hc hk
 have h1:∀ x ∈ l.take k,x.ID<n:=fun x hx=>by
  obtain ⟨q,hq,rfl⟩:=List.getElem_of_mem hx
  simp only [List.length_take] at hq
  rw [List.getElem_take]
  exact (hc q (by omega)).1 (by omega)
 have h2:∀ x ∈ l.drop k,n<x.ID:=fun x hx=>by
  obtain ⟨q,hq,rfl⟩:=List.getElem_of_mem hx
  simp only [List.length_drop] at hq
  rw [List.getElem_drop]
  have:=(hc (k+q) (by omega))
  have h3:=ep _ (List.getElem_mem (show k+q<l.length by omega))
  omega
 unfold iU at *
 rw [List.append_assoc,List.pairwise_append]
 refine ⟨hs.sublist (List.take_sublist _ _),?_,?_⟩
 ·rw [List.singleton_append,List.pairwise_cons]
  exact ⟨fun x hx=>by rw [hb]; exact h2 x hx,hs.sublist (List.drop_sublist _ _)⟩
 ·intro x hx y hy
  rw [List.singleton_append] at hy
  rcases List.mem_cons.1 hy with rfl | hy
  ·rw [hb]; exact h1 x hx
  ·have:=h1 x hx; have:=h2 y hy; omega
theorem Eo {r:aq} {e:ax}:(jU r e).2.ID=r.ID:=by
 unfold jU
 repeat' split
 all_goals rfl
theorem Ep {r:aq} {e:ax} (h:rS r) (hc:e.Kind=2→iW e.Item=0∧e.Item.ID=r.ID):rS (jU r e).2:=by
 unfold jU
 split
 ·rename_i hk
  obtain ⟨c1,c2⟩:=hc hk
  split
  ·exact h
  ·rename_i h2
   simp only [not_or,ne_eq,Decidable.not_not] at h2
   have c3:=(vq (F:=100) (by omega) c1).2
   refine ⟨by simp,by simp; omega,by simp [h.ap],h.us,fun i x hx=>?_,fun u hu=>?_⟩
   ·simp only [List.getElem?_append] at hx
    split at hx
    ·exact h.vs i x hx
    ·rename_i hi
     rw [List.getElem?_singleton] at hx
     split at hx
     ·cases hx; exact ⟨c1,c2,by omega⟩
     ·cases hx
   ·have:=h.uv u hu
    simp only [List.length_append,List.length_singleton]
    omega
 ·split
  ·split
   ·exact h
   ·split
    ·exact h
    ·split
     ·exact h
     ·exact ⟨h.n1,h.n8,by simp [h.ap],h.us,h.vs,h.uv⟩
  ·split
   ·split
    ·exact h
    ·rename_i hb
     split
     ·exact h
     ·split
      ·exact h
      ·split
       ·exact h
       ·refine ⟨h.n1,h.n8,h.ap,by simp; omega,h.vs,fun u hu=>?_⟩
        rcases List.mem_append.1 hu with hu | hu
        ·exact h.uv u hu
        ·rw [List.mem_singleton] at hu
         subst hu
         unfold nZ at hb
         simp only
         omega
   ·split
    ·exact h
    ·exact ⟨h.n1,h.n8,h.ap,h.us,h.vs,h.uv⟩
theorem uz {l:List aq} {e:ax} (h:gZ l) (hc:e.Kind=2→iW e.Item=0):gZ (kY l e).2:=by
 unfold kY
 cases hp:cu l (GQ e) with
 | none=>exact h
 | some k =>
  obtain ⟨hk,bC⟩:=dV hp
  simp only [List.getElem?_eq_getElem hk]
  split
  ·refine ⟨by simpa using h.len,Dw h.sort hk Eo,fun r hr=>?_⟩
   rcases List.mem_or_eq_of_mem_set hr with hr | rfl
   ·exact h.ok r hr
   ·refine Ep (h.ok _ (List.getElem_mem hk)) fun h2=>⟨hc h2,?_⟩
    rw [bC]; simp [GQ,h2]
  ·exact h
theorem qe {l:List aq} {e:ax} (h:gZ l):gZ (cW l e).2:=by
 unfold cW
 split
 ·unfold kK
  split
  ·exact h
  ·rename_i h1
   split
   ·exact h
   ·rename_i h2
    split
    ·exact h
    ·rename_i h3
     split
     ·exact h
     ·rename_i h4
      simp only [ne_eq,Decidable.not_not] at h1 h2
      have hp:cu l e.Item.ID=.none:=by simpa using h3
      unfold NV
      refine ⟨by simp; have:=nd l e.Item.ID; omega,Dv h.sort hp rfl,fun r hr=>?_⟩
      simp only [List.mem_append,List.mem_singleton] at hr
      rcases hr with (hr | rfl) | hr
      ·exact h.ok r (List.mem_of_mem_take hr)
      ·refine ⟨by simp,by simp,by simp,by simp,fun i x hx=>?_,by simp⟩
       simp only [List.getElem?_singleton] at hx
       split at hx
       ·cases hx; rename_i hi; exact ⟨h1,rfl,by omega⟩
       ·cases hx
      ·exact h.ok r (List.mem_of_mem_drop hr)
 ·split
  ·split
   ·exact h
   ·rename_i h1; exact uz h fun _=>by simpa using h1
  ·rename_i h2
   split
   ·exact uz h fun hk=>absurd hk h2
   ·exact h
theorem A0 {l:List aq} {e:ax} (h:(cW l e).1 ≠ 0):(cW l e).2=l:=by
 revert h
 unfold cW kK kY
 repeat' split
 all_goals simp_all
theorem pN:gZ []:=⟨by simp,by simp [iU],by simp⟩
end Go.Sh
namespace Go.Sh
open Go.L
def wA (r:aq) (i:Nat) (x:ai):Bool:=decide (iW x=0) && (decide (x.ID=r.ID) && decide (x.Version=(i:Int)+1))
def ql (r:aq) (u:az):Bool:=decide (1≤u.Version) && decide (u.Version≤(r.ae.length:Int))
def pI (r:aq):Bool:=!(decide ((r.ae.length:Int)<1) || (decide ((r.ae.length:Int) > 8) || (((r.ah.length:Int) != (r.ae.length:Int)) || decide ((r.Uses.length:Int) > 300)))) &&
 scan (fun i x=>if wA r i x=true then .none else some false) (r.Uses.all (ql r)) 0 r.ae
theorem uq {F:Nat} {r:aq} (hF:400<F):Df F r=some (pI r):=by
 unfold Df pI
 cases h1:(decide ((r.ae.length:Int)<1) || (decide ((r.ae.length:Int) > 8) || (((r.ah.length:Int) != (r.ae.length:Int)) || decide ((r.Uses.length:Int) > 300)))) with
 | true=>simp
 | false =>
  simp only [Bool.or_eq_false_iff,decide_eq_false_iff_not] at h1
  simp only [Bool.false_eq_true,if_false,Bool.not_false,Bool.true_and]
  refine gx _ _ (by omega) (fun n i x hx hi=>?_) (fun n=>?_) (by omega)
  ·have Wq:i<8:=by have:=(List.getElem?_eq_some_iff.1 hx).1; omega
   have hw:i64 ((i:Int)+1)=(i:Int)+1:=by rw [cQ (by omega) (by omega)]
   simp only [C9,Ge,jT hx,if_true,jY hx,Option.bind_some,vp (show 50<F by omega),u4,hw]
   have e:wA r i x=!((iW x != 0) || (x.ID != r.ID || x.Version != (i:Int)+1)):=by
    unfold wA
    refine JM ?_
    simp only [Bool.and_eq_true,decide_eq_true_eq,Bool.not_eq_true',Bool.or_eq_false_iff,bne_eq_false_iff_eq]
   rw [e]
   cases ((iW x != 0) || (x.ID != r.ID || x.Version != (i:Int)+1)) <;> simp
  ·simp only [C9,Ge,jC,Bool.false_eq_true,if_false]
   refine Bg (L:=AF r) (ql r) (by omega) (fun n i x hx hi=>?_) (fun n=>?_) (by omega)
   ·simp only [AF,Gf,jT hx,if_true,jY hx,Option.bind_some,jH hi]
    have e:ql r x=!(decide (x.Version<1) || decide (x.Version > (r.ae.length:Int))):=by
     unfold ql
     refine JM ?_
     simp only [Bool.and_eq_true,decide_eq_true_eq,Bool.not_eq_true',Bool.or_eq_false_iff,decide_eq_false_iff_not]
     omega
    rw [e]
    cases (decide (x.Version<1) || decide (x.Version > (r.ae.length:Int))) <;> simp
   ·simp only [AF,Gf,jC,Bool.false_eq_true,if_false]
theorem GB {r:aq}:pI r=true ↔ rS r:=by
 unfold pI
 rw [Bool.and_eq_true,qc]
 simp only [Bool.not_eq_true',Bool.or_eq_false_iff,decide_eq_false_iff_not,bne_eq_false_iff_eq,List.all_eq_true,ql,wA,Bool.and_eq_true,decide_eq_true_eq,Nat.zero_add]
 constructor
 ·rintro ⟨⟨a,b,c,d⟩,e,f⟩
  exact ⟨by omega,by omega,by omega,by omega,fun i x hx=>f i x hx,fun u hu=>e u hu⟩
 ·intro h
  have:=h.n1; have:=h.n8; have:=h.ap; have:=h.us
  exact ⟨⟨by omega,by omega,by omega,by omega⟩,fun u hu=>h.uv u hu,fun i x hx=>h.vs i x hx⟩
def H8 (l:List aq) (i:Nat) (x:aq):Bool:=!(decide (0<i) && decide ((l.getD (i - 1) default).ID ≥ x.ID)) && pI x
def gK (l:List aq):Bool:=decide (l.length≤40) && scan (fun i x=>if H8 l i x=true then .none else some false) true 0 l
theorem Jj {l:List aq} {i:Nat} {x:aq} (hi:i<1000000) (hx:l[i]?=some x) (h0:0<i):idx l (i64 ((i:Int) - 1))=some (l.getD (i - 1) default):=by
 have h1:=(List.getElem?_eq_some_iff.1 hx).1
 rw [cQ (by omega) (by omega),show (i:Int) - 1=((i - 1:Nat):Int) by omega,ni]
 rw [List.getD_eq_getElem?_getD,List.getElem?_eq_getElem (show i - 1<l.length by omega)]; rfl
theorem GY {F:Nat} {l:List aq} (hF:400<F):yo F ⟨l⟩=some (gK l):=by
 unfold yo gK
 by_cases h:l.length≤40
 ·have d:decide ((l.length:Int) > 40)=false:=by simp; omega
  simp only [d,Bool.false_eq_true,if_false,h,decide_true,Bool.true_and]
  refine gx _ _ (by omega) (fun n i x hx hi=>?_) (fun n=>?_) (by omega)
  ·simp only [uU,xN,jT hx,if_true,jY hx,Option.bind_some,jH hi,uq hF]
   unfold H8
   by_cases h0:0<i
   ·have d:decide ((i:Int) > 0)=true:=by simp; exact h0
    simp only [d,if_true,Jj hi hx h0,Option.bind_some,u4,h0,decide_true,Bool.true_and]
    cases decide ((l.getD (i - 1) default).ID ≥ x.ID) <;> cases pI x <;> simp
   ·have d:decide ((i:Int) > 0)=false:=by simp; omega
    simp only [d,Bool.false_eq_true,if_false,Option.bind_some,h0,decide_false,Bool.false_and,Bool.not_false,Bool.true_and]
    cases pI x <;> simp
  ·simp only [uU,xN,jC,Bool.false_eq_true,if_false]
 ·have d:decide ((l.length:Int) > 40)=true:=by simp; omega
  simp [d,h]
theorem Du {l:List aq} (h:∀ (i:Nat) x,l[i]?=some x→0<i→(l.getD (i - 1) default).ID<x.ID):iU l:=by
 unfold iU
 rw [List.pairwise_iff_getElem]
 have key:∀ (d i:Nat) (hi:i<l.length) (hj:i+d+1<l.length),l[i].ID<l[i+d+1].ID:=by
  intro d
  induction d with
  | zero =>
   intro i hi hj
   have:=h (i+1) l[i+1] (by simp) (by omega)
   simpa [hi] using this
  | succ d ih =>
   intro i hi hj
   have h1:=ih i hi (by omega)
   have:=h (i+(d+1)+1) l[i+(d+1)+1] (by simp) (by omega)
   rw [show i+(d+1)+1 - 1=i+d+1 by omega,List.getD_eq_getElem?_getD,List.getElem?_eq_getElem (show i+d+1<l.length by omega)] at this
   simp only [Option.getD_some] at this
   omega
 intro i j hi hj rA
 have:=key (j - i - 1) i hi (by omega)
 have e:i+(j - i - 1)+1=j:=by omega
 simpa only [e] using this
theorem kb {l:List aq}:gK l=true ↔ gZ l:=by
 unfold gK
 rw [Bool.and_eq_true,qc,decide_eq_true_eq]
 simp only [H8,Bool.and_eq_true,Bool.not_eq_true',Bool.and_eq_false_iff,decide_eq_false_iff_not,GB,Nat.zero_add,true_and]
 constructor
 ·rintro ⟨h1,h2⟩
  refine ⟨h1,Du fun i x hx h0=>?_,fun r hr=>?_⟩
  ·have:=(h2 i x hx).1; omega
  ·obtain ⟨i,hi⟩:=List.getElem?_of_mem hr
   exact (h2 i r hi).2
 ·intro h
  refine ⟨h.len,fun j x hx=>⟨?_,h.ok x (List.mem_of_getElem? hx)⟩⟩
  by_cases h0:0<j
  ·right
   obtain ⟨hj,rfl⟩:=List.getElem?_eq_some_iff.1 hx
   have:=List.pairwise_iff_getElem.1 h.sort (j - 1) j (by omega) hj (by omega)
   rw [List.getD_eq_getElem?_getD,List.getElem?_eq_getElem (show j - 1<l.length by omega)]
   simp only [Option.getD_some]; omega
  ·left; exact h0
structure Bf (F:Nat) (r:aq):Prop where
 vl:r.ae.length<1000000∧r.ae.length<F
 v:∀ x ∈ r.ae,G6 F x
 a:r.ah.length<1000000∧r.ah.length<F
 u:r.Uses.length<1000000∧r.Uses.length<F
theorem rS.sh {F:Nat} {r:aq} (h:rS r) (hF:400<F):Bf F r:=by
 have:=h.n8; have:=h.ap; have:=h.us
 refine ⟨by omega,fun x hx=>?_,by omega,by omega⟩
 obtain ⟨i,hi⟩:=List.getElem?_of_mem hx
 exact (vq (by omega) (h.vs i x hi).1).1
structure mg (F:Nat) (l:List aq):Prop where
 l1:l.length<1000000
 l2:l.length<F
 r:∀ r ∈ l,Bf F r
theorem gZ.sh {F:Nat} {l:List aq} (h:gZ l) (hF:400<F):mg F l :=
 ⟨by have:=h.len; omega,by have:=h.len; omega,fun r hr=>(h.ok r hr).sh hF⟩
def rX (l:List aq) (e:ax):List aq × Int :=
 if gK l=true then (if (cW l e).1=0 then ((cW l e).2,0) else ([],(cW l e).1)) else ([],1)
theorem rY {l:List aq} {e:ax} (h:gZ l):rX l e=if (cW l e).1=0 then ((cW l e).2,0) else ([],(cW l e).1):=by
 unfold rX; rw [if_pos (kb.2 h)]
def K6 (e:ax):rO:=⟨e.ar.Source,e.ar.Seq⟩
def jv:List ax→List aq→List b7→List aq × List b7
 | [],l,r=>(l,r)
 | e :: s,l,r=>jv s (cW l e).2 (if (cW l e).1=0 then r else r++[⟨K6 e,(cW l e).1⟩])
def kr (u:Int) (l:List ax):List ax:=l.takeWhile fun e=>decide (e.ar.Time≤u)
def lH (ev:List ax) (u:Int):List aq × List b7 × Int :=
 let c:=gz (·.ar) ev
 if c.2 ≠ 0 then ([],[],c.2) else ((jv (kr u c.1) [] []).1,(jv (kr u c.1) [] []).2,0)
theorem Cn {F:Nat} {u:Int} {c:List ax} {z:Int} (hF:400<F) (hb:c.length<1000000):∀ (s p:List ax) (n:Nat) (l:List aq) (r:List b7),c=p++s→s.length<n→gZ l→r.length≤p.length→vV F u (c,z) n (p.length:Int) r l=some (⟨(jv (kr u s) l r).1⟩,(jv (kr u s) l r).2,0):=by
 intro s
 induction s with
 | nil=>intro p n l r hp hn hv hr; cases n with
  | zero=>omega
  | succ n =>
   have:c=p:=by simpa using hp
   subst this
   simp only [vV,xT,Int.lt_irrefl,decide_false,Bool.false_eq_true,if_false,kr,List.takeWhile_nil,jv]
 | cons e s ih=>intro p n l r hp hn hv hr; cases n with
  | zero=>omega
  | succ n =>
   have hlen:p.length<1000000:=by rw [hp] at hb; simp at hb; omega
   have d1:decide ((p.length:Int)<(c.length:Int))=true:=by rw [hp]; exact Hn p e s
   have i1:idx c (p.length:Int)=some e:=by rw [hp]; exact jq p e s
   simp only [vV,xT,d1,if_true,i1,Option.bind_some]
   by_cases hu:e.ar.Time≤u
   ·have d2 : decide (e.ar.Time > u) = false := by simp; omega
    have hw:kr u (e :: s)=e :: kr u s:=by unfold kr; rw [List.takeWhile_cons_of_pos (by simpa using hu)]
    have BA:(b7.mk (K6 e) 0)=(b7.mk (K6 e) 0):=rfl
    have fin:∀ c':Int × List aq,cW l e=c'→(if (c'.1 != 0)=true then (app r [b7.mk (rO.mk e.ar.Source e.ar.Seq) c'.1]).bind fun v=>vV F u (c,z) n (i64 ((p.length:Int)+1)) v c'.2 else vV F u (c,z) n (i64 ((p.length:Int)+1)) r c'.2)
      = some (⟨(jv (kr u (e :: s)) l r).1⟩,(jv (kr u (e :: s)) l r).2,0):=fun c' wB=>by
     rw [hw]
     simp only [jv,wB,Lj p e (show p.length<1000000000 by omega)]
     have uG:gZ c'.2:=by rw [← wB]; exact qe hv
     by_cases h0:c'.1=0
     ·simp only [h0,bne_self_eq_false,Bool.false_eq_true,if_false,if_true]
      exact ih (p++[e]) n _ r (by rw [hp]; simp) (by simpa using hn) uG (by simp; omega)
     ·have Hw:(c'.1 != 0)=true:=by simp [h0]
      simp only [h0,Hw,if_true,if_false]
      rw [c8 (by simp; omega),Option.bind_some]
      exact ih (p++[e]) n _ _ (by rw [hp]; simp) (by simpa using hn) uG (by simp; omega)
    simp only [d2,Bool.false_eq_true,if_false,beq_iff_eq]
    by_cases h1:e.Kind=1
    ·have e1:cW l e=kK l e:=by unfold cW; rw [if_pos h1]
     simp only [h1,if_true,Ho hv hF,Option.bind_some]
     exact fin _ e1
    ·by_cases h2:e.Kind=2
     ·simp only [h2,show ¬ ((2:Int)=1) by omega,if_false,if_true,GG hv hF h2,Option.bind_some]
      exact fin _ rfl
     ·by_cases h3:e.Kind=3
      ·simp only [h3,show ¬ ((3:Int)=1) by omega,show ¬ ((3:Int)=2) by omega,if_false,if_true,Cd hv hF h3,Option.bind_some]
       exact fin _ rfl
      ·by_cases h4:e.Kind=4
       ·simp only [h4,show ¬ ((4:Int)=1) by omega,show ¬ ((4:Int)=2) by omega,show ¬ ((4:Int)=3) by omega,if_false,if_true,Qg hv hF h4,Option.bind_some]
        exact fin _ rfl
       ·by_cases h5:e.Kind=5
        ·have:=tM hv hF (.inl h5)
         rw [show decide (e.Kind=5)=true by simp [h5]] at this
         simp only [h5,if_false,if_true,this,Option.bind_some,show ¬ ((5:Int)=1) by omega,show ¬ ((5:Int)=2) by omega,show ¬ ((5:Int)=3) by omega,show ¬ ((5:Int)=4) by omega]
         exact fin _ rfl
        ·by_cases h6:e.Kind=6
         ·have:=tM hv hF (.inr h6)
          rw [show decide (e.Kind=5)=false by simp [h5]] at this
          simp only [h6,if_false,if_true,this,Option.bind_some,show ¬ ((6:Int)=1) by omega,show ¬ ((6:Int)=2) by omega,show ¬ ((6:Int)=3) by omega,show ¬ ((6:Int)=4) by omega,show ¬ ((6:Int)=5) by omega]
          exact fin _ rfl
         ·have e1:cW l e=(2,l):=by unfold cW; simp [h1,h2,h3,h4,h5,h6]
          simp only [h1,h2,h3,h4,h5,h6,if_false]
          exact fin _ e1
   ·have d2:decide (e.ar.Time > u)=true:=by simp; omega
    have hw:kr u (e :: s)=[]:=by unfold kr; rw [List.takeWhile_cons_of_neg (by simpa using hu)]
    simp [d2,hw,jv]
theorem sa {E:Type} [DecidableEq E] (st:E→aL) (l:List E):(gz st l).1.length≤l.length:=by
 unfold gz
 split
 ·simp
 ·exact JQ st l
theorem JR {F:Nat} (hF:400<F) {ev:List ax} {u:Int} (hc:qo F ev) (hb:ev.length<1000000) (Rk:ev.length<F):kU F ev u=some (⟨(lH ev u).1⟩,(lH ev u).2.1,(lH ev u).2.2):=by
 unfold kU lH
 rw [vn (by omega) hc hb Rk]
 simp only [Option.bind_some]
 have hle:=sa (fun x:ax=>x.ar) ev
 generalize gz (fun x:ax=>x.ar) ev=c at hle
 by_cases h0:c.2=0
 ·simp only [h0,bne_self_eq_false,Bool.false_eq_true,if_false,ne_eq,not_true_eq_false]
  have:=Cn (c:=c.1) (u:=u) (z:=c.2) hF (by omega) c.1 [] F [] [] rfl (by omega) pN (by simp)
  exact this
 ·have:(c.2 != 0)=true:=by simp [h0]
  simp [this,h0]
theorem uD:∀ {s:List ax} {l:List aq} {r:List b7},gZ l→gZ (jv s l r).1
 | [],l,r,h=>h
 | e :: s,l,r,h=>by unfold jv; exact uD (qe h)
theorem Cm {ev:List ax} {u:Int}:gZ (lH ev u).1:=by
 unfold lH
 simp only
 split
 ·exact pN
 ·exact uD pN
end Go.Sh
namespace Go.Sh
open Go.L
def G3:aq:=aq.mk 0 [] [] [] false
def IB (l:List aq) (c:Int):aq × Bool:=match l.find? (fun r=>decide (r.ID=c)) with | some r=>(r,true) | .none=>(G3,false)
def qD (l:List Bool):Nat→Option Nat
 | 0=>.none
 | j+1=>if l.getD j false=true then some j else qD l j
def Hp (time rest dE:Int) (r:aq):Option aG :=
 if r.ab=true ∨ (r.Uses.length:Int) > dE then .none
 else if r.Uses.any (fun u=>decide (u.Time > time - rest))=true then .none
 else (qD r.ah r.ah.length).map fun (j:Nat)=>⟨r.ID,(j:Int)+1⟩
def nO (l:List aq) (time rest dE:Int):List aG :=
 if gK l=false ∨ time<0 ∨ time > 1000000 ∨ rest<0 ∨ rest > 1000000 ∨ dE<0 then [] else l.filterMap (Hp time rest dE)
theorem MA {aH:Int→List aG→Option (List aG)} {n10:Int} {cF:List aG} {x:aq} (ha:x.ah.length<1000000) (hl:cF.length<1000000):∀ (j n:Nat),j≤x.ah.length→j<n →
  AN aH n10 cF x n ((j:Int) - 1)=aH (i64 (n10+1)) (cF++((qD x.ah j).map fun (k:Nat)=>aG.mk x.ID ((k:Int)+1)).toList):=by
 intro j
 induction j with
 | zero=>intro n hj hn; cases n with
  | zero=>omega
  | succ n =>
   have d:decide (((0:Nat):Int) - 1 ≥ 0)=false:=by simp
   simp only [AN,Gu,d,Bool.false_eq_true,if_false,qD,Option.map_none,Option.toList_none,List.append_nil]
 | succ j ih=>intro n hj hn; cases n with
  | zero=>omega
  | succ n =>
   have d:decide (((j+1:Nat):Int) - 1 ≥ 0)=true:=by simp
   have e:((j+1:Nat):Int) - 1=(j:Int):=by omega
   have iu:j<x.ah.length:=by omega
   simp only [AN,Gu,d,if_true]
   rw [e,dx iu]
   have hg:x.ah.getD j false=x.ah[j]:=by rw [List.getD_eq_getElem?_getD,List.getElem?_eq_getElem iu]; rfl
   simp only [Option.bind_some,qD,hg]
   cases hx:x.ah[j] with
   | true =>
    simp only [if_true,Option.map_some,Option.toList_some]
    rw [c8 (by simp; omega),Option.bind_some]
    have hw:i64 ((j:Int)+1)=(j:Int)+1:=by rw [cQ (by omega) (by omega)]
    rw [hw]
   | false =>
    simp only [Bool.false_eq_true,if_false]
    rw [cQ (by omega) (by omega)]
    exact ih n (by omega) (by omega)
theorem kQ {α β:Type} (f:α→Option β):∀ (l:List α) (i:Nat) (s:List β),run (fun _ x s=>(.inr (s++(f x).toList):List β ⊕ List β)) id i l s=s++l.filterMap f
 | [],i,s=>by simp [run]
 | x :: l,i,s=>by
  unfold run
  simp only
  rw [kQ f l,List.filterMap_cons]
  cases f x <;> simp
theorem lq {F:Nat} {l:List aq} {time rest dE:Int} (hF:400<F):yz F ⟨l⟩ time rest dE=some (nO l time rest dE):=by
  unfold yz nO
  rw [GY hF]
  simp only [Option.bind_some,u4]
  by_cases hc:gK l=false ∨ time<0 ∨ time > 1000000 ∨ rest<0 ∨ rest > 1000000 ∨ dE<0
  · have d:(!(gK l) || (decide (time<0) || (decide (time > 1000000) || (decide (rest<0) || (decide (rest > 1000000) || decide (dE<0))))))=true:=by simpa using hc
    simp only [d,if_true,hc]
  · have d:(!(gK l) || (decide (time<0) || (decide (time > 1000000) || (decide (rest<0) || (decide (rest > 1000000) || decide (dE<0))))))=false:=by simpa using hc
    simp only [d,Bool.false_eq_true,if_false,hc]
    simp only [not_or,Bool.not_eq_false] at hc
    obtain ⟨hv,h1,h2,h3,h4,h5⟩:=hc
    have hV:=kb.1 hv
    have hS:=hV.sh hF
    have hw:i64 (time - rest)=time - rest:=by rw [cQ (by omega) (by omega)]
    have hlen:=hV.len
    have:=yF (a:=l) (L:=AM F ⟨l⟩ time rest dE) (s0:=([]:List aG)) (F:=F) (fun _ x s=>(.inr (s++(Hp time rest dE x).toList):List aG ⊕ List aG)) id (fun i s=>s.length≤i) hS.l1 (fun n i x s hx hI=>?_) (fun n s hI=>?_) hS.l2 (by simp)
    · rw [this,kQ]; simp
    · have IZ:=List.mem_of_getElem? hx
      have hi:i<1000000:=by have:=(List.getElem?_eq_some_iff.1 hx).1; omega
      have gv:=hV.ok x IZ
      refine ⟨?_, by simp only [List.length_append]; have : (Hp time rest dE x).toList.length ≤ 1 := by cases Hp time rest dE x <;> simp
                     omega⟩
      simp only [AM,Gt,jT hx,if_true,jY hx,Option.bind_some,jH hi]
      unfold Hp
      by_cases a1:x.ab=true ∨ (x.Uses.length:Int) > dE
      · have d1:(x.ab || decide ((x.Uses.length:Int) > dE))=true:=by simpa using a1
        simp only [d1,if_true,a1,Option.toList_none,List.append_nil]
      · have d1:(x.ab || decide ((x.Uses.length:Int) > dE))=false:=by simpa using a1
        simp only [d1,Bool.false_eq_true,if_false,a1]
        rw [GX (p:=fun a0=>xM a0 time rest) (fun u=>decide (u.Time > time - rest)) (fun u _=>by unfold xM; rw [hw]) (hS.r x IZ).u.1 (hS.r x IZ).u.2]
        simp only [Option.bind_some]
        by_cases a2:(x.Uses.any fun u=>decide (u.Time > time - rest))=true
        · simp only [a2,if_true,Option.toList_none,List.append_nil]
        · simp only [a2,if_false,Bool.false_eq_true]
          have ha:=(hS.r x IZ).a
          rw [cQ (by omega) (by omega),MA ha.1 (by omega) x.ah.length F (Nat.le_refl _) ha.2]
          rw [jH hi]
    · simp only [AM,Gt,jC,Bool.false_eq_true,if_false]; rfl
theorem Hl {F:Nat} (hF:2000≤F):yi F=some true:=by
 unfold yi
 rw [JR (by omega) (fun e he=>by
  simp only [List.mem_cons,List.not_mem_nil,or_false] at he
  unfold G6
  rcases he with rfl | rfl | rfl <;> simp <;> omega) (by simp) (by simp; omega)]
 have h1:lH [(ax.mk (aL.mk 3 0 2) 4 (ai.mk 0 0 (ByteArray.mk #[]) [] []) (aG.mk 5 1) 9),(ax.mk (aL.mk 1 0 0) 1 (ai.mk 5 1 (ByteArray.mk #[113]) [(ao.mk 1 3 0 0 0 0)] []) (aG.mk 0 0) 0),(ax.mk (aL.mk 2 0 1) 3 (ai.mk 0 0 (ByteArray.mk #[]) [] []) (aG.mk 5 1) 0)] 100
  = ([aq.mk 5 [ai.mk 5 1 (ByteArray.mk #[113]) [(ao.mk 1 3 0 0 0 0)] []] [true] [az.mk 1 9 3] false],[],0):=by decide +kernel
 rw [h1]
 simp only [Option.bind_some]
 rw [lq (by omega),lq (by omega)]
 have h2:nO [aq.mk 5 [ai.mk 5 1 (ByteArray.mk #[113]) [(ao.mk 1 3 0 0 0 0)] []] [true] [az.mk 1 9 3] false] 10 7 1=[aG.mk 5 1]:=by decide +kernel
 have h3:nO [aq.mk 5 [ai.mk 5 1 (ByteArray.mk #[113]) [(ao.mk 1 3 0 0 0 0)] []] [true] [az.mk 1 9 3] false] 10 8 1=[]:=by decide +kernel
 rw [h2,h3]
 simp [idx]
end Go.Sh
namespace Go.Sh
open Go.L
abbrev cM {α:Type} (x:Option α) (P:α→Prop):Prop:=∃ a,x=some a∧P a
theorem cM.bind {α β:Type} {x:Option α} {f:α→Option β} {P:α→Prop} {Q:β→Prop} (h:cM x P) (k:∀ a,P a→cM (f a) Q):cM (x.bind f) Q:=by
 obtain ⟨a,rfl,ha⟩:=h; exact k a ha
theorem cM.pure {α:Type} {a:α} {P:α→Prop} (h:P a):cM (some a) P:=⟨a,rfl,h⟩
theorem cM.ite {α:Type} {c:Prop} [Decidable c] {a b:Option α} {P:α→Prop} (h1:c→cM a P) (h2:¬ c→cM b P):cM (if c then a else b) P:=by
 by_cases h:c
 ·rw [if_pos h]; exact h1 h
 ·rw [if_neg h]; exact h2 h
theorem cM.app {α β:Type} {xs ys:List α} {f:List α→Option β} {Q:β→Prop} (h:xs.length+ys.length≤549755813888) (k:cM (f (xs++ys)) Q):cM ((app xs ys).bind f) Q:=by
 rw [c8 h]; exact k
theorem cM.idx {α β:Type} {l:List α} {i:Int} {f:α→Option β} {Q:β→Prop} (h0:0≤i) (h1:i<(l.length:Int)) (k:∀ x,x ∈ l→l[i.toNat]?=some x→cM (f x) Q):cM ((idx l i).bind f) Q:=by
 obtain ⟨j,rfl⟩:=Int.eq_ofNat_of_zero_le h0
 have hj:j<l.length:=by omega
 rw [dx hj,Option.bind_some]
 exact k _ (List.getElem_mem hj) (by simp [hj])
theorem cM.imp {α:Type} {x:Option α} {P Q:α→Prop} (h:cM x P) (k:∀ a,P a→Q a):cM x Q:=by obtain ⟨a,h1,h2⟩:=h; exact ⟨a,h1,k a h2⟩
theorem Tp.mk' {t:aN} (h:Tp t):Tp (aN.mk t.L t.At):=h
theorem jg {t:aN} (h:Tp t) (n:Int) (hn:n≤1000000000):cM (iS t n) fun r=>Tp r.2∧0≤r.1∧(1≤n→r.1<n)∧(n<1→r.1=0):=by
 obtain ⟨x,t',h1,h2,h3,h4,h5⟩:=sV h n hn; exact ⟨_,h1,h2,h3,h4,h5⟩
theorem iK {t:aN} (h:Tp t) (a b:Int) (ha:-1000≤a) (pd:a≤b) (hb:b≤100000000):cM (kH t a b) fun r=>Tp r.2∧a≤r.1∧r.1≤b:=by
 obtain ⟨x,t',h1,h2,h3,h4⟩:=rH h a b ha pd hb; exact ⟨_,h1,h2,h3,h4⟩
theorem H2 {t:aN} (h:Tp t) (n:Int) (hn:n≤1000000000):cM (nW t n) fun r=>Tp r.2:=by
 obtain ⟨x,t',h1,h2⟩:=Jf h n hn; exact ⟨_,h1,h2⟩
theorem BO {t:aN} (h:Tp t) (l:List Int) (hl:1≤l.length) (DM:l.length≤1000):cM (tX t l) fun r=>Tp r.2∧r.1 ∈ l:=by
 obtain ⟨x,t',h1,h2,h3⟩:=FY h l hl DM; exact ⟨_,h1,h2,h3⟩
theorem G0 {t:aN} (h:Tp t):cM (rP t) fun r=>Tp r.2:=by
 obtain ⟨x,t',h1,h2⟩:=G1 h; exact ⟨_,h1,h2⟩
theorem LK {t:aN} (h:Tp t) (n:Int) (hn:n≤1000000):cM (B9 t n) fun r=>Tp r.2:=by
 obtain ⟨x,t',h1,h2⟩:=GS h n hn; exact ⟨_,h1,h2⟩
theorem Li {L:List Int} {A n:Int} (h:Tp (aN.mk L A)) (hn:n≤1000000):cM (if decide (n > 0)=true then (nW (aN.mk L A) n).bind fun r=>some (r.1,r.2.L,r.2.At) else some (false,L,A)) fun w=>Tp (aN.mk w.2.1 w.2.2)∧(n≤0→w.1=false):=by
 refine cM.ite (fun hc=>?_) fun hc=>cM.pure ⟨h,fun _=>rfl⟩
 simp only [decide_eq_true_eq] at hc
 exact (H2 h n (by omega)).bind fun r hr=>cM.pure ⟨hr,fun h0=>by omega⟩
theorem Jh {t:aN} (h:Tp t) (n:Int) (hn:n≤1000000):cM (B7 t n) fun r=>Tp r.2:=by
 unfold B7
 refine (iK h 1 12 (by omega) (by omega) (by omega)).bind fun r1 h1=>?_
 refine (jg h1.1 4 (by omega)).bind fun r2 h2=>?_
 refine (jg h2.1 3 (by omega)).bind fun r3 h3=>?_
 refine (jg h3.1 3 (by omega)).bind fun r4 h4=>?_
 have key:∀ (L:List Int) (A a b c d:Int),Tp (aN.mk L A)→cM (B8 n r2 r3 L A a b c d) fun r=>Tp r.2:=fun L A a b c d hL=>by
  unfold B8
  refine (Li hL hn).bind fun w hw=>?_
  refine cM.ite (fun _=>?_) fun _=>cM.pure hw.1
  refine (jg hw.1 6 (by omega)).bind fun r5 h5=>?_
  refine cM.ite (fun _=>(iK h5.1 (-1) 3 (by omega) (by omega) (by omega)).bind fun r hr=>cM.pure hr.1) fun _=>?_
  refine cM.ite (fun _=>(BO h5.1 [0,40,41,(-1)] (by simp) (by simp)).bind fun r hr=>cM.pure hr.1) fun _=>?_
  refine cM.ite (fun _=>(G0 h5.1).bind fun r hr=>cM.pure hr) fun _=>?_
  refine cM.ite (fun _=>(G0 h5.1).bind fun r hr=>cM.pure hr) fun _=>?_
  refine cM.ite (fun _=>(iK h5.1 (-1) 6 (by omega) (by omega) (by omega)).bind fun r hr=>cM.pure hr.1) fun _=>?_
  exact (iK h5.1 (-1) 5 (by omega) (by omega) (by omega)).bind fun r hr=>cM.pure hr.1
 refine cM.ite (fun _=>?_) fun _=>key _ _ _ _ _ _ h4.1
 refine (iK h4.1 2 5 (by omega) (by omega) (by omega)).bind fun r5 h5=>?_
 refine (jg h5.1 r5.1 (by omega)).bind fun r6 h6=>?_
 exact (iK h6.1 1 3 (by omega) (by omega) (by omega)).bind fun r7 h7=>key _ _ _ _ _ _ h7.1
theorem GL:∀ (l:List Int),(AV l).size=l.length:=by
 have key:∀ (l:List Int) (b:ByteArray),(l.foldl (fun r n=>r.push (UInt8.ofNat n.toNat)) b).size=b.size+l.length:=by
  intro l
  induction l with
  | nil=>intro b; simp
  | cons x l ih=>intro b; rw [List.foldl_cons,ih]; simp; omega
 intro l; unfold AV; rw [key]; simp
theorem cM.wi {β:Type} {a b:ByteArray} {f:ByteArray→Option β} {Q:β→Prop} (h:a.size+b.size≤1000000000) (k:cM (f (a++b)) Q):cM ((Go.L.wi a b).bind f) Q:=by
 unfold Go.L.wi; rw [if_pos h]; exact k
theorem Qi {F:Nat} {t:aN} (h:Tp t) (hF:20<F):cM (Ed F t 3) fun r=>Tp r.2∧r.1.size≤3:=by
 unfold Ed
 refine (iK h 1 3 (by omega) (by omega) (by omega)).bind fun r1 h1=>?_
 refine Fz (L:=Ee) (B:=Ef) (fun _=>rfl) (fun b n l a=>(b.size:Int)+n≤3∧0≤n∧Tp (aN.mk l a)) (fun _ n _ _=>n.toNat) (fun r=>Tp r.2∧r.1.size≤3) ?_ F (ByteArray.mk #[]) r1.1 r1.2.L r1.2.At ⟨by show ((0:Nat):Int)+_≤3; omega,by omega,h1.1⟩ (by omega)
 intro rec b n l a hI ih
 obtain ⟨q1,q2,q3⟩:=hI
 unfold Ef
 refine cM.ite (fun hc=>?_) fun hc=>cM.pure ⟨q3,by show b.size≤3; omega⟩
 simp only [decide_eq_true_eq] at hc
 refine (jg q3 3 (by omega)).bind fun r hr=>?_
 have hs:(AV [(IntKind.u8.wrap (i64 (97+r.1)))]).size=1:=GL _
 refine cM.wi (by rw [hs]; omega) ?_
 rw [cQ (n:=n - 1) (by omega) (by omega)]
 exact ih _ _ _ _ ⟨by rw [ByteArray.size_append,hs]; omega,by omega,hr.1⟩ (by omega)
def Iv (x:ai):Prop:=x.aI.length≤20∧x.aD.length≤20
theorem Iv.sh {F:Nat} {x:ai} (h:Iv x) (hF:50<F):G6 F x:=by
 have:=h.1; have:=h.2
 exact ⟨⟨by omega,by omega⟩,by omega,by omega⟩
theorem OP {F:Nat} {t:aN} (h:Tp t) (id v n:Int) (hn:n≤1000000) (hF:50<F):cM (D7 F t id v n) fun r=>Tp r.2∧Iv r.1∧(n≤0→r.1.ID=id):=by
 unfold D7
 refine (Qi h (by omega)).bind fun r1 h1=>?_
 refine cM.wi (by show 1+_≤_; have:=h1.2; omega) ?_
 generalize (ByteArray.mk #[113])++r1.1=sb
 refine (iK h1.1 1 3 (by omega) (by omega) (by omega)).bind fun r3 h3=>?_
 have second:∀ (parts:List ao) (L:List Int) (A:Int),1≤parts.length→parts.length≤3→Tp (aN.mk L A)→cM (B6 id v n sb parts F 0 L A ([]:List Int)) fun r=>Tp r.2∧Iv r.1∧(n≤0→r.1.ID=id):=fun parts L A T9 Ws hL=>by
  refine Fz (L:=B6 id v n sb parts) (B:=Ea id v n sb parts) (fun _=>rfl) (fun i l a e=>0≤i∧i≤6∧(e.length:Int)≤i∧Tp (aN.mk l a)) (fun i _ _ _=>(6 - i).toNat) (fun r=>Tp r.2∧Iv r.1∧(n≤0→r.1.ID=id)) ?_ F 0 L A [] ⟨by omega,by omega,by simp,hL⟩ (by omega)
  intro rec i l a e hI ih
  obtain ⟨q1,q2,q3,q4⟩:=hI
  have hi:i64 (i+1)=i+1:=cQ (by omega) (by omega)
  unfold Ea
  refine cM.ite (fun hc=>?_) fun hc=>?_
  ·simp only [decide_eq_true_eq] at hc
   have may:cM (if (i != id)=true then (nW (aN.mk l a) 8).bind fun gS=>some (gS.1,gS.2.L,gS.2.At) else some (false,l,a)) fun w=>Tp (aN.mk w.2.1 w.2.2) :=
    cM.ite (fun _=>(H2 q4 8 (by omega)).bind fun r hr=>cM.pure hr) fun _=>cM.pure q4
   refine may.bind fun w hw=>?_
   rw [hi]
   refine cM.ite (fun _=>?_) fun _=>ih _ _ _ _ ⟨by omega,by omega,by omega,hw⟩ (by omega)
   exact cM.app (by simp; omega) (ih _ _ _ _ ⟨by omega,by omega,by simp; omega,hw⟩ (by omega))
  ·have hb:Iv ⟨id,v,sb,parts,e⟩:=⟨by show parts.length≤20; omega,by show e.length≤20; omega⟩
   refine (Li q4 hn).bind fun w hw=>?_
   refine cM.ite (fun hm=>?_) fun _=>cM.pure ⟨hw.1,hb,fun _=>rfl⟩
   have km:¬ n≤0:=fun h0=>by rw [hw.2 h0] at hm; cases hm
   refine (jg hw.1 7 (by omega)).bind fun r5 h5=>?_
   refine cM.ite (fun _=>(G0 h5.1).bind fun r hr=>cM.pure ⟨hr,hb,fun h0=>absurd h0 km⟩) fun _=>?_
   refine cM.ite (fun _=>(BO h5.1 [0,8,9,(-1)] (by simp) (by simp)).bind fun r hr=>cM.pure ⟨hr.1,hb,fun h0=>absurd h0 km⟩) fun _=>?_
   refine cM.ite (fun _=>(jg h5.1 3 (by omega)).bind fun r hr=>?_) fun _=>?_
   ·exact cM.idx hr.2.1 (by simpa using hr.2.2.1 (by omega)) fun x _ _=>cM.pure ⟨hr.1,hb,fun h0=>absurd h0 km⟩
   refine cM.ite (fun _=>cM.pure ⟨h5.1,⟨by simp,hb.2⟩,fun h0=>absurd h0 km⟩) fun _=>?_
   refine cM.ite (fun _=>(Jh h5.1 1 (by omega)).bind fun r hr=>cM.app (by simp; omega) (cM.pure ⟨hr,⟨by simp; omega,hb.2⟩,fun h0=>absurd h0 km⟩)) fun _=>?_
   refine cM.ite (fun _=>(BO h5.1 [0,id,(-1),10000,3] (by simp) (by simp)).bind fun r hr=>cM.app (by simp; omega) (cM.pure ⟨hr.1,⟨hb.1,by simp; omega⟩,fun h0=>absurd h0 km⟩)) fun _=>?_
   refine cM.idx (by omega) (by omega) fun x1 _ _=>?_
   refine cM.idx (by omega) (by omega) fun x2 _ _=>?_
   refine cM.idx (by omega) (by omega) fun x3 _ _=>?_
   refine cM.idx (by omega) (by omega) fun x4 _ _=>?_
   refine cM.idx (by omega) (by omega) fun x5 _ _=>?_
   refine cM.idx (by omega) (by omega) fun x6 _ _=>?_
   exact cM.app (by simp; omega) (cM.pure ⟨h5.1,⟨by simp; omega,hb.2⟩,fun h0=>absurd h0 km⟩)
 refine Fz (L:=D8 F id v n sb) (B:=D9 F id v n sb) (fun _=>rfl) (fun k l a p=>0≤k∧(p.length:Int)+k≤3∧1≤(p.length:Int)+k∧Tp (aN.mk l a)) (fun k _ _ _=>k.toNat) (fun r=>Tp r.2∧Iv r.1∧(n≤0→r.1.ID=id)) ?_ F r3.1 r3.2.L r3.2.At [] ⟨by omega,by simp; omega,by simp; omega,h3.1⟩ (by omega)
 intro rec k l a p hI ih
 obtain ⟨q1,q2,q3,q4⟩:=hI
 unfold D9
 refine cM.ite (fun hc=>?_) fun hc=>second p l a (by simp at hc; omega) (by omega) q4
 simp only [decide_eq_true_eq] at hc
 refine (Jh q4 0 (by omega)).bind fun r hr=>?_
 rw [cQ (n:=k - 1) (by omega) (by omega)]
 exact cM.app (by simp; omega) (ih _ _ _ _ ⟨by omega,by simp; omega,by simp; omega,hr⟩ (by omega))
def UE (n:Int) (e:ax):Prop:=Iv e.Item∧(n≤0→0≤e.Item.ID∧e.Item.ID<5)
def qS (n:Int) (l:List ax):Prop:=∀ e ∈ l,UE n e
theorem qS.short {F:Nat} {n:Int} {l:List ax} (h:qS n l) (hF:50<F):qo F l:=fun e he=>(h e he).1.sh hF
section
variable {aH:Int→List Int→Int→List Int→List ax→Option (List ax × aN)} {n3:Int} {l7:List ax} {iT:List ax × aN→Prop} {n:Int}
def zD (aH:Int→List Int→Int→List Int→List ax→Option (List ax × aN)) (n3:Int) (l7:List ax) (n:Int) (iT:List ax × aN→Prop):Prop :=
 ∀ (t:aN) (vs:List Int) (l:List ax),Tp t→vs.length=5→l.length≤l7.length+2→qS n l→cM (aH (i64 (n3 - 1)) t.L t.At vs l) iT
theorem Ck (hl:l7.length≤1000) (hc:qS n l7) (h:zD aH n3 l7 n iT) {n18 n25 n27 n28 n29 n30 n31 n32 n33 A:Int} {sb:ByteArray} {ps:List ao} {es vs L:List Int} (hv:vs.length=5) (rf:ps.length≤20) (Cy:es.length≤20) (bC:n≤0→0≤n18∧n18<5) (ht:Tp (aN.mk L A)) :
  cM (G5 aH n3 l7 n18 sb ps es n25 vs n27 n28 n29 n30 n31 n32 n33 L A) iT:=by
 unfold G5
 refine cM.app (by simp; omega) ?_
 have wB:qS n (l7++[ax.mk (aL.mk n27 n28 n29) n30 (ai.mk n18 n31 sb ps es) (aG.mk n32 n33) n25]):=fun x hx=>by
  rcases List.mem_append.1 hx with hx | hx
  ·exact hc x hx
  ·simp only [List.mem_singleton] at hx; subst hx; exact ⟨⟨rf,Cy⟩,bC⟩
 have iD:(l7++[ax.mk (aL.mk n27 n28 n29) n30 (ai.mk n18 n31 sb ps es) (aG.mk n32 n33) n25]).length=l7.length+1:=by simp
 generalize l7++[ax.mk (aL.mk n27 n28 n29) n30 (ai.mk n18 n31 sb ps es) (aG.mk n32 n33) n25]=v at wB iD
 refine (H2 ht 8 (by omega)).bind fun r hr=>?_
 refine cM.ite (fun _=>?_) fun _=>h _ _ _ hr hv (by omega) wB
 refine (jg hr (v.length:Int) (by omega)).bind fun r2 h2=>?_
 refine cM.idx h2.2.1 (h2.2.2.1 (by omega)) fun x hx _=>?_
 refine cM.app (by simp; omega) (h _ _ _ h2.1 hv (by simp; omega) fun y hy=>?_)
 rcases List.mem_append.1 hy with hy | hy
 ·exact wB y hy
 ·simp only [List.mem_singleton] at hy; subst hy; exact wB _ hx
theorem MB (hn:n≤1000000) (hl:l7.length≤1000) (hc:qS n l7) (h:zD aH n3 l7 n iT) {dG cJ:Int × aN} {n16 n17 n18 n19 n23 n24 n25:Int} {sb:ByteArray} {ps:List ao} {es vs L:List Int} (hv:vs.length=5) (rf:ps.length≤20) (Cy:es.length≤20) (bC:n≤0→0≤n18∧n18<5) (ht:Tp (aN.mk L n16)) :
  cM (L0 aH n n3 l7 dG cJ L n16 n17 n18 n19 sb ps es n23 n24 n25 vs) iT:=by
 unfold L0
 refine (Li ht hn).bind fun w hw=>?_
 refine cM.ite (fun _=>?_) fun _=>Ck hl hc h hv rf Cy bC hw.1
 refine (jg hw.1 5 (by omega)).bind fun r5 h5=>?_
 refine cM.ite (fun _=>(iK h5.1 (-1) 8 (by omega) (by omega) (by omega)).bind fun r hr=>Ck hl hc h hv rf Cy bC hr.1) fun _=>?_
 refine cM.ite (fun _=>(iK h5.1 (-1) 3 (by omega) (by omega) (by omega)).bind fun r hr=>Ck hl hc h hv rf Cy bC hr.1) fun _=>?_
 refine cM.ite (fun _=>(jg h5.1 7 (by omega)).bind fun r hr=>Ck hl hc h hv rf Cy bC hr.1) fun _=>?_
 refine cM.ite (fun _=>(LK h5.1 3 (by omega)).bind fun r hr=>Ck hl hc h hv rf Cy bC hr) fun _=>?_
 exact (iK h5.1 0 3 (by omega) (by omega) (by omega)).bind fun r hr=>Ck hl hc h hv rf Cy bC hr.1
end
theorem vi {F:Nat} {t:aN} (h:Tp t) (dE:Nat) (n:Int) (hm:dE≤300) (hn:n≤1000000) (hF:400<F):∃ l t',LZ F t dE n=some (l,t')∧Tp t'∧l.length≤2 * dE∧qS n l:=by
 have key:cM (LZ F t dE n) fun r=>Tp r.2∧r.1.length≤2 * dE∧qS n r.1:=by
  unfold LZ
  rw [show (5:Int)=((5:Nat):Int) from rfl,vL (by omega),Option.bind_some]
  refine (iK h 0 dE (by omega) (by omega) (by omega)).bind fun r2 h2=>?_
  refine OV (L:=D5 F n) (B:=D6 F n) (fun _=>rfl) (fun k l a vs L4=>0≤k∧(L4.length:Int)+2 * k≤2 * dE∧vs.length=5∧qS n L4∧Tp (aN.mk l a)) (fun k _ _ _ _=>k.toNat) (fun r=>Tp r.2∧r.1.length≤2 * dE∧qS n r.1) ?_ F r2.1 r2.2.L r2.2.At (List.replicate 5 0) [] ⟨by omega,by simp; omega,by simp,fun e he=>by simp at he,h2.1⟩ (by omega)
  intro rec k l a vs L4 hI ih
  obtain ⟨q1,q2,q3,q4,q5⟩:=hI
  unfold D6
  refine cM.ite (fun hc=>?_) fun hc=>cM.pure ⟨q5,by show L4.length≤_; omega,q4⟩
  simp only [decide_eq_true_eq] at hc
  have nQ:zD rec k L4 n fun r=>Tp r.2∧r.1.length≤2 * dE∧qS n r.1:=fun t' fH l' a1 a2 a3 a4=>by
   rw [cQ (n:=k - 1) (by omega) (by omega)]
   exact ih _ _ _ _ _ ⟨by omega,by omega,a2,a4,a1⟩ (by omega)
  refine (jg q5 5 (by omega)).bind fun r9 h9=>?_
  have b9:=h9.2.2.1 (by omega)
  refine (jg h9.1 2 (by omega)).bind fun dG ME=>?_
  refine (jg ME.1 2 (by omega)).bind fun cJ UO=>?_
  refine (BO UO.1 [3,4,4,2,5,6] (by simp) (by simp)).bind fun cI L5=>?_
  refine cM.idx h9.2.1 (by omega) fun cT _ _=>?_
  refine (jg L5.1 4 (by omega)).bind fun fb TI=>?_
  have hw:cM ((idx vs r9.1).bind fun Qk=>if (Qk == 0)=true then some true else some (cI.1 == 2)) fun _=>True :=
   cM.idx h9.2.1 (by omega) fun x _ _=>cM.ite (fun _=>cM.pure trivial) fun _=>cM.pure trivial
  have j4:∀ k4:Int,cM (L3 rec F n k vs L4 r9 dG cJ fb k4) fun r=>Tp r.2∧r.1.length≤2 * dE∧qS n r.1:=fun k4=>by
   unfold L3
   refine cM.idx h9.2.1 (by omega) fun Hj _ _=>?_
   refine cM.idx h9.2.1 (by omega) fun UC _ _=>?_
   refine cM.idx h9.2.1 (by simp; omega) fun Ql _ _=>?_
   refine (OP TI.1 r9.1 Ql n hn (by omega)).bind fun rp Qr=>?_
   exact MB hn (by omega) q4 nQ (by simp [q3]) Qr.2.1.1 Qr.2.1.2 (fun h0=>by rw [Qr.2.2 h0]; omega) Qr.1
  refine hw.bind fun w _=>cM.ite (fun _=>?_) fun _=>?_
  ·refine cM.idx h9.2.1 (by omega) fun Qm _ _=>?_
   exact cM.ite (fun _=>j4 _) fun _=>j4 _
  ·exact MB hn (by omega) q4 nQ q3 (by simp) (by simp) (fun _=>by omega) TI.1
 obtain ⟨⟨l,t'⟩,h1,h2⟩:=key
 exact ⟨l,t',h1,h2⟩
end Go.Sh
namespace Go.Sh
open Go.L
theorem wh (p:ao):xP p=some (rj p):=by
 unfold xP rj
 cases (decide (p.Max<1) || (decide (p.Max > 40) || (decide (p.e5<0) || (decide (p.e5 ≥ 16) || (decide (p.cg<0) || decide (p.cg ≥ 6)))))) with
 | true=>simp
 | false =>
  by_cases h1:p.Kind=1
  ·simp only [h1,Bool.false_eq_true,if_false,if_true,beq_self_eq_true,Bool.not_false,Bool.true_and,wP]
  ·have:(p.Kind == 1)=false:=by simp [h1]
   simp only [h1,this,Bool.false_eq_true,if_false,Bool.not_false,Bool.true_and,wP]
theorem FZ (s:ByteArray):CZ s=allI (fun _ (b:UInt8)=>!(decide ((b.toNat:Int)<32) || decide ((b.toNat:Int) > 126))) 0 s.data.toList:=by
 unfold CZ; rw [o5]
theorem FO (id:Int) (l:List Int):s6 id l=allI (fun i x=>!(ur id l i x)) 0 l:=by
 unfold s6 allI
 congr 1
 funext i x
 cases hb:ur id l i x <;> simp [hb]
theorem tr {F:Nat} {x:ai} (hF:50<F):tp F x=some (iW x):=by
 unfold tp iW
 have e1:(decide (x.ID<0) || (decide (x.ID > 9999) || (decide (x.Version<1) || decide (x.Version > 8))))=(!(decide (x.ID ≥ 0) && decide (x.ID≤9999)) || (decide (x.Version<1) || decide (x.Version > 8))):=by
  refine JM ?_
  simp only [Bool.or_eq_true,decide_eq_true_eq,Bool.not_eq_true',Bool.and_eq_false_iff,decide_eq_false_iff_not]
  omega
 rw [e1]
 cases h1:(!(decide (x.ID ≥ 0) && decide (x.ID≤9999)) || (decide (x.Version<1) || decide (x.Version > 8))) with
 | true=>simp
 | false =>
  simp only [Bool.false_eq_true,if_false]
  cases h2:(decide ((x.bD.size:Int) > 40) || (decide ((x.aI.length:Int) > 6) || decide ((x.aD.length:Int) > 8))) with
  | true=>simp
  | false =>
   simp only [Bool.or_eq_false_iff,decide_eq_false_iff_not] at h2
   simp only [Bool.false_eq_true,if_false]
   by_cases h0:x.bD=ByteArray.mk #[]
   ·simp [h0]
   ·simp only [h0,decide_false,Bool.false_eq_true,if_false,Bool.false_or]
    have eY:(x.bD.size:Int)=(x.bD.data.toList.length:Int):=by
     show ((x.bD.data.size:Nat):Int)=_
     rw [Array.length_toList]
    have hl:x.bD.data.toList.length=x.bD.size:=Array.length_toList
    have l3:yw x F 0=some (if s6 x.ID x.aD=true then 0 else 9):=by
     rw [FO,jP (a:=x.aD) (L:=yw x) (fun i y=>if (!(ur x.ID x.aD i y))=true then .none else some 9) (some 0) (by omega) (fun n i y hy hi=>?_) (fun n=>?_) (by omega),j6]
     ·split <;> rfl
     ·simp only [yw,xG,jT hy,if_true,jY hy,Option.bind_some,jH hi]
      unfold ur
      have e2:(!(decide (y ≥ 0) && decide (y≤9999)))=(decide (y<0) || decide (y > 9999)):=by
       refine JM ?_
       simp only [Bool.or_eq_true,decide_eq_true_eq,Bool.not_eq_true',Bool.and_eq_false_iff,decide_eq_false_iff_not]
       omega
      rw [e2]
      by_cases h0:0<i
      ·have d:decide ((i:Int) > 0)=true:=by simp; exact h0
       simp only [d,if_true,Ji hi hy h0,Option.bind_some,u4,h0,decide_true,Bool.true_and,wP,Bool.or_assoc]
       cases (decide (y<0) || (decide (y > 9999) || (decide (y=x.ID) || decide (x.aD.getD (i - 1) 0 ≥ y)))) <;> simp
      ·have d:decide ((i:Int) > 0)=false:=by simp; omega
       simp only [d,Bool.false_eq_true,if_false,Option.bind_some,u4,h0,decide_false,Bool.false_and,wP,Bool.or_assoc]
       cases (decide (y<0) || (decide (y > 9999) || (decide (y=x.ID) || false))) <;> simp
     ·simp only [yw,xG,jC,Bool.false_eq_true,if_false]
    have l2:yv F x F 0=some (if x.aI.all rj=true then (if s6 x.ID x.aD=true then 0 else 9) else 1):=by
     rw [jP (a:=x.aI) (L:=yv F x) (fun _ y=>if rj y=true then .none else some 1) (some (if s6 x.ID x.aD=true then 0 else 9)) (by omega) (fun n i y hy hi=>?_) (fun n=>?_) (by omega),j6 (fun _ y=>rj y),o5]
     ·split <;> rfl
     ·simp only [yv,xF,jT hy,if_true,jY hy,Option.bind_some,jH hi,wh]
      cases rj y <;> simp
     ·simp only [yv,xF,jC,Bool.false_eq_true,if_false,l3]
    rw [FZ,jP (a:=x.bD.data.toList) (L:=AP F x) (fun _ (b:UInt8)=>if (!(decide ((b.toNat:Int)<32) || decide ((b.toNat:Int) > 126)))=true then .none else some 7) (some (if x.aI=[] then 10 else if x.aI.all rj=true then (if s6 x.ID x.aD=true then 0 else 9) else 1)) (by omega) (fun n i y hy hi=>?_) (fun n=>?_) (by omega),j6 (fun _ (b:UInt8)=>!(decide ((b.toNat:Int)<32) || decide ((b.toNat:Int) > 126)))]
    ·cases allI (fun _ (b:UInt8)=>!(decide ((b.toNat:Int)<32) || decide ((b.toNat:Int) > 126))) 0 x.bD.data.toList <;> simp
    ·simp only [AP,xE,eY,jT hy,if_true,Jz hy,Option.bind_some,jH hi,u4]
     cases (decide ((y.toNat:Int)<32) || decide ((y.toNat:Int) > 126)) <;> simp
    ·simp only [AP,xE,eY,jC,Bool.false_eq_true,if_false,l2]
     by_cases h3:x.aI=[]
     ·simp [h3]
     ·have h4:((x.aI.length:Int) == 0)=false:=by
       rw [beq_eq_false_iff_ne]; intro h; exact h3 (List.eq_nil_of_length_eq_zero (by omega))
      simp only [h3,h4,Bool.false_eq_true,if_false]
theorem yG {F:Nat} {l:List aq} (hF:400<F):u0 F ⟨l⟩=some (gK l):=by
  unfold u0 gK
  by_cases h:l.length≤40
  · have d:decide ((l.length:Int) > 40)=false:=by simp; omega
    simp only [d,Bool.false_eq_true,if_false,h,decide_true,Bool.true_and]
    refine gx _ _ (by omega) (fun n i x hx hi=>?_) (fun n=>?_) (by omega)
    · have next:∀ (hh:(decide ((x.ae.length:Int)<1) || (decide ((x.ae.length:Int) > 8) || (((x.ah.length:Int) != (x.ae.length:Int)) || decide ((x.Uses.length:Int) > 300))))=false),
          yx (B1 F ⟨l⟩ n) F (i:Int) x F 0=if pI x=true then B1 F ⟨l⟩ n ((i+1:Nat):Int) else some false:=fun hh=>by
        simp only [Bool.or_eq_false_iff,decide_eq_false_iff_not] at hh
        have l3:yy (B1 F ⟨l⟩ n) (i:Int) x F 0=if x.Uses.all (ql x)=true then B1 F ⟨l⟩ n ((i+1:Nat):Int) else some false:=by
          rw [jP (a:=x.Uses) (L:=yy (B1 F ⟨l⟩ n) (i:Int) x) (fun _ y=>if ql x y=true then .none else some false) (B1 F ⟨l⟩ n ((i+1:Nat):Int)) (by omega) (fun n' i' y hy gV=>?_) (fun n'=>?_) (by omega),j6 (fun _ y=>ql x y),o5]
          · simp only [yy,xJ,jT hy,if_true,jY hy,Option.bind_some,jH gV,u4]
            have e:ql x y=!(decide (y.Version<1) || decide (y.Version > (x.ae.length:Int))):=by
              unfold ql
              refine JM ?_
              simp only [Bool.and_eq_true,decide_eq_true_eq,Bool.not_eq_true',Bool.or_eq_false_iff,decide_eq_false_iff_not]
              omega
            rw [e]
            cases (decide (y.Version<1) || decide (y.Version > (x.ae.length:Int))) <;> simp
          · simp only [yy,xJ,jC,Bool.false_eq_true,if_false,jH hi]
        rw [jP (a:=x.ae) (L:=yx (B1 F ⟨l⟩ n) F (i:Int) x) (fun i' y=>if wA x i' y=true then .none else some false) (if x.Uses.all (ql x)=true then B1 F ⟨l⟩ n ((i+1:Nat):Int) else some false) (by omega) (fun n' i' y hy gV=>?_) (fun n'=>?_) (by omega),j6]
        · have er:pI x=(allI (wA x) 0 x.ae && x.Uses.all (ql x)):=by
            unfold pI
            rw [yJ]
            have:(decide ((x.ae.length:Int)<1) || (decide ((x.ae.length:Int) > 8) || (((x.ah.length:Int) != (x.ae.length:Int)) || decide ((x.Uses.length:Int) > 300))))=false:=by
              simp only [Bool.or_eq_false_iff,decide_eq_false_iff_not]; exact hh
            rw [this]; simp
          rw [er]
          cases allI (wA x) 0 x.ae <;> cases x.Uses.all (ql x) <;> simp
        · have hw:i64 ((i':Int)+1)=(i':Int)+1:=by have:=(List.getElem?_eq_some_iff.1 hy).1; rw [cQ (by omega) (by omega)]
          have RQ:i64 ((i':Int)+1)=((i'+1:Nat):Int):=jH gV
          simp only [yx,xI,jT hy,if_true,jY hy,Option.bind_some,tr (show 50<F by omega),u4]
          have e:wA x i' y=!((iW y != 0) || (y.ID != x.ID || y.Version != (i':Int)+1)):=by
            unfold wA
            refine JM ?_
            simp only [Bool.and_eq_true,decide_eq_true_eq,Bool.not_eq_true',Bool.or_eq_false_iff,bne_eq_false_iff_eq]
          rw [e,RQ]
          rw [show (((i'+1:Nat):Int))=(i':Int)+1 from rfl]
          cases ((iW y != 0) || (y.ID != x.ID || y.Version != (i':Int)+1)) <;> simp
        · simp only [yx,xI,jC,Bool.false_eq_true,if_false,l3]
      simp only [B1,xH,jT hx,if_true,jY hx,Option.bind_some,u4]
      unfold H8
      have MY:(!(decide ((x.ae.length:Int)<1) || (decide ((x.ae.length:Int) > 8) || (((x.ah.length:Int) != (x.ae.length:Int)) || decide ((x.Uses.length:Int) > 300)))))=false→pI x=false:=fun hh=>by
        unfold pI; rw [hh]; rfl
      generalize hH:(decide ((x.ae.length:Int)<1) || (decide ((x.ae.length:Int) > 8) || (((x.ah.length:Int) != (x.ae.length:Int)) || decide ((x.Uses.length:Int) > 300))))=H at next MY
      by_cases h0:0<i
      · have d:decide ((i:Int) > 0)=true:=by simp; exact h0
        simp only [d,if_true,Jj hi hx h0,Option.bind_some,u4,h0,decide_true,Bool.true_and]
        cases hb:decide ((l.getD (i - 1) default).ID ≥ x.ID) with
        | true=>simp
        | false =>
          cases MI:H with
          | true=>rw [MI] at MY; rw [MY rfl]; simp
          | false=>rw [MI] at next; simp only [Bool.or_self,Bool.false_eq_true,if_false,Bool.not_false,Bool.true_and]; rw [next rfl]; cases pI x <;> simp
      · have d:decide ((i:Int) > 0)=false:=by simp; omega
        simp only [d,Bool.false_eq_true,if_false,Option.bind_some,h0,decide_false,Bool.false_and,Bool.not_false,Bool.true_and,u4,hH]
        cases MI:H with
        | true=>rw [MI] at MY; rw [MY rfl]; simp
        | false=>rw [MI] at next; simp only [Bool.false_eq_true,if_false]; rw [next rfl]; cases pI x <;> simp
    · simp only [B1,xH,jC,Bool.false_eq_true,if_false]
  · have d:decide ((l.length:Int) > 40)=true:=by simp; omega
    simp [d,h]
theorem pz {F:Nat} {l:List aq} {c:Int} (hb:l.length<1000000) (hF:l.length<F):vW F ⟨l⟩ c=some (match cu l c with | some k=>(k:Int) | .none=>-1):=by
 unfold vW
 have e:∀ (s:List aq) (i:Nat),scan (fun i (x:aq)=>if decide (x.ID=c)=true then some (i:Int) else .none) (-1) i s=(match (cu s c).map (·+i) with | some k=>(k:Int) | .none=>-1):=by
  intro s
  induction s with
  | nil=>intro i; rfl
  | cons x s ih =>
   intro i
   unfold scan cu
   rw [List.findIdx?_cons]
   by_cases hc:x.ID=c
   ·simp [hc]
   ·have:(x.ID == c)=false:=by simp [hc]
    simp only [hc,decide_false,Bool.false_eq_true,if_false,this]
    rw [ih (i+1)]
    unfold cu
    cases List.findIdx? (fun b=>b.ID == c) s with
    | none=>rfl
    | some k=>simp only [Option.map_some]; congr 1; omega
 have e0:=e l 0
 have:(cu l c).map (·+0)=cu l c:=by cases cu l c <;> rfl
 rw [this] at e0
 rw [← e0]
 refine gx _ _ hb (fun n i x hx hi=>?_) (fun n=>?_) hF
 ·simp only [Dm,xK,jT hx,if_true,jY hx,Option.bind_some,jH hi,wP]
  by_cases hc:x.ID=c <;> simp [hc]
 ·simp only [Dm,xK,jC,Bool.false_eq_true,if_false]
def kc (l:List aq) (r:aq):List aq:=l.take (jB l r.ID)++[r]++(l.drop (jB l r.ID)).filter fun x=>decide (x.ID ≠ r.ID)
theorem G2 {F:Nat} {l:List aq} {r:aq} (hs:iU l) (hb:l.length<1000000) (hF:l.length<F):ui F ⟨l⟩ r=some ⟨kc l r⟩:=by
 unfold ui
 have key : ∀ (s p : List aq) (n : Nat) (out : List aq) (b : Bool), l = p ++ s → s.length < n → (out.length ≤ p.length + 1 ∧ (b = false → out.length ≤ p.length)) → (b = false → ∀ x ∈ p, x.ID < r.ID) → (b = true → ∀ x ∈ s, r.ID ≤ x.ID) →
   yA ⟨l⟩ r n b (p.length:Int) out=some ⟨if b=true then out++s.filter (fun x=>decide (x.ID ≠ r.ID)) else out++kc s r⟩:=by
  intro s
  induction s with
  | nil=>intro p n out b hp hn ho h1 h2; cases n with
   | zero=>omega
   | succ n =>
    have:l=p:=by simpa using hp
    subst this
    simp only [yA,xR,Int.lt_irrefl,decide_false,Bool.false_eq_true,if_false]
    cases b with
    | true=>simp
    | false =>
     simp only [Bool.not_false,if_true,Bool.false_eq_true,if_false]
     rw [c8 (by simp; omega)]
     simp [kc,jB]
  | cons x s ih=>intro p n out b hp hn ho h1 h2; cases n with
   | zero=>omega
   | succ n =>
    have hlen:p.length<1000000:=by rw [hp] at hb; simp at hb; omega
    have d1:decide ((p.length:Int)<(l.length:Int))=true:=by rw [hp]; exact Hn p x s
    have i1:idx l (p.length:Int)=some x:=by rw [hp]; exact jq p x s
    have Ud:∀ y ∈ s,x.ID<y.ID:=fun y hy=>by
     have:=hs; unfold iU at this; rw [hp,List.pairwise_append,List.pairwise_cons] at this
     exact this.2.1.1 y hy
    have fin : ∀ (b' : Bool) (oJ : List aq), (oJ.length ≤ p.length + 1 ∧ (b' = false → oJ.length ≤ p.length)) → (b' = false → oJ = out ∧ x.ID < r.ID) → (b' = true → r.ID ≤ x.ID ∧ ((b = true ∧ oJ = out) ∨ (b = false ∧ oJ = out ++ [r]))) →
      uY (yA ⟨l⟩ r n) ⟨l⟩ r (p.length:Int) b' oJ=some ⟨if b=true then out++(x :: s).filter (fun x=>decide (x.ID ≠ r.ID)) else out++kc (x :: s) r⟩:=fun b' oJ iD c1 c2=>by
     unfold uY
     simp only [i1,Option.bind_some]
     rw [Lj p x (by omega)]
     have e3:∀ q,(if b'=true then (oJ++q)++s.filter (fun x=>decide (x.ID ≠ r.ID)) else (oJ++q)++kc s r)=(if b'=true then oJ++(q++s.filter (fun x=>decide (x.ID ≠ r.ID))) else oJ++(q++kc s r)):=fun q=>by
      cases b' <;> simp
     have oo:∀ q,q=(if x.ID ≠ r.ID then [x] else [])→(if b'=true then oJ++(q++s.filter (fun x=>decide (x.ID ≠ r.ID))) else oJ++(q++kc s r))=(if b=true then out++(x :: s).filter (fun x=>decide (x.ID ≠ r.ID)) else out++kc (x :: s) r):=fun q hq=>by
      cases b' with
      | false =>
       obtain ⟨e1,e2⟩:=c1 rfl
       subst e1
       have hb:b=false:=by
        cases b with
        | false=>rfl
        | true=>have:=h2 rfl x (by simp); omega
       subst hb
       have ep:x.ID ≠ r.ID:=by omega
       rw [hq,if_pos ep]
       simp only [Bool.false_eq_true,if_false]
       unfold kc jB
       rw [List.takeWhile_cons_of_pos (by simpa using e2)]
       simp
      | true =>
       obtain ⟨e1,e2⟩:=c2 rfl
       have MS:(x :: s).filter (fun x=>decide (x.ID ≠ r.ID))=q++s.filter (fun x=>decide (x.ID ≠ r.ID)):=by
        rw [hq,List.filter_cons]
        by_cases hx:x.ID=r.ID <;> simp [hx]
       rcases e2 with ⟨hb,rb⟩ | ⟨hb,rb⟩
       ·subst hb; subst rb; simp only [if_true]; rw [MS]
       ·subst hb; subst rb
        simp only [if_true,Bool.false_eq_true,if_false]
        have:kc (x :: s) r=[r]++(x :: s).filter (fun x=>decide (x.ID ≠ r.ID)):=by
         unfold kc jB
         rw [List.takeWhile_cons_of_neg (by simp; omega)]
         simp
        rw [this,MS]; simp
     by_cases ep:x.ID=r.ID
     ·have Hw:(x.ID != r.ID)=false:=by simp [ep]
      simp only [Hw,Bool.false_eq_true,if_false]
      have:=ih (p++[x]) n oJ b' (by rw [hp]; simp) (by simpa using hn) ⟨by simp; omega,fun hT=>by have:=iD.2 hT; simp; omega⟩ (fun hT y hy=>by
       rcases List.mem_append.1 hy with hy | hy
       ·refine h1 ?_ y hy
        cases b with
        | false=>rfl
        | true=>have:=h2 rfl x (by simp); have:=(c1 hT).2; omega
       ·rw [List.mem_singleton] at hy; subst hy; exact (c1 hT).2) (fun hT y hy=>by have:=(c2 hT).1; have:=Ud y hy; omega)
      rw [this,← oo [] (by simp [ep])]
      simp
     ·have Hw:(x.ID != r.ID)=true:=by simp [ep]
      simp only [Hw,if_true]
      rw [c8 (by simp; omega),Option.bind_some]
      have:=ih (p++[x]) n (oJ++[x]) b' (by rw [hp]; simp) (by simpa using hn) ⟨by simp; omega,fun hT=>by have:=iD.2 hT; simp; omega⟩ (fun hT y hy=>by
       rcases List.mem_append.1 hy with hy | hy
       ·refine h1 ?_ y hy
        cases b with
        | false=>rfl
        | true=>have:=h2 rfl x (by simp); have:=(c1 hT).2; omega
       ·rw [List.mem_singleton] at hy; subst hy; exact (c1 hT).2) (fun hT y hy=>by have:=(c2 hT).1; have:=Ud y hy; omega)
      rw [this,e3,oo [x] (by simp [ep])]
    simp only [yA,xR,d1,if_true]
    cases b with
    | true =>
     simp only [Bool.not_true,Bool.false_eq_true,if_false,Option.bind_some]
     exact fin true out ⟨ho.1,fun h=>by cases h⟩ (fun h=>by cases h) (fun _=>⟨h2 rfl x (by simp),.inl ⟨rfl,rfl⟩⟩)
    | false =>
     simp only [Bool.not_false,if_true,i1,Option.bind_some]
     by_cases MV:x.ID ≥ r.ID
     ·simp only [MV,decide_true,if_true]
      rw [c8 (by simp; omega),Option.bind_some]
      exact fin true (out++[r]) ⟨by simp; have:=ho.2 rfl; omega,fun h=>by cases h⟩ (fun h=>by cases h) (fun _=>⟨MV,.inr ⟨rfl,rfl⟩⟩)
     ·simp only [MV,decide_false,Bool.false_eq_true,if_false]
      exact fin false out ⟨ho.1,fun _=>ho.2 rfl⟩ (fun _=>⟨rfl,by omega⟩) (fun h=>by cases h)
 have:=key l [] F [] false rfl hF (by simp) (by simp) (by simp)
 simpa using this
theorem DF {l:List aq} (hs:iU l) {k:Nat} (hk:k<l.length) {r:aq} (hp:cu l r.ID=some k):kc l r=l.set k r:=by
 unfold kc
 rw [← te hs hp]
 obtain ⟨_,bC⟩:=dV hp
 rw [List.drop_eq_getElem_cons hk,List.filter_cons]
 have h1:decide (l[k].ID ≠ r.ID)=false:=by simp [bC]
 have h2:(l.drop (k+1)).filter (fun x=>decide (x.ID ≠ r.ID))=l.drop (k+1):=by
  rw [List.filter_eq_self]
  intro x hx
  obtain ⟨q,hq,rfl⟩:=List.getElem_of_mem hx
  simp only [List.length_drop] at hq
  rw [List.getElem_drop]
  have:=List.pairwise_iff_getElem.1 hs k (k+1+q) hk (by omega) (by omega)
  simp; omega
 rw [h1,h2,List.set_eq_take_append_cons_drop,if_pos hk]
 simp
theorem DE {l:List aq} {r:aq} (hp:cu l r.ID=.none):kc l r=l.take (jB l r.ID)++[r]++l.drop (jB l r.ID):=by
 unfold kc
 congr 1
 rw [List.filter_eq_self]
 intro x hx
 simpa using qF hp x (List.mem_of_mem_drop hx)
def kO (c:Int × List aq):aM × Int:=if c.1=0 then (⟨c.2⟩,0) else (⟨[]⟩,c.1)
theorem GA {F:Nat} {l:List aq} {e:ax} (h:gZ l) (hF:400<F):ym F ⟨l⟩ e.Item=some (kO (kK l e)):=by
 have hlen:=h.len
 unfold ym kK
 rw [tr (by omega),pz (by omega) (by omega)]
 simp only [Option.bind_some]
 by_cases h1:iW e.Item=0
 ·simp only [h1,bne_self_eq_false,Bool.false_eq_true,if_false,ne_eq,not_true_eq_false]
  by_cases h2:e.Item.Version=1
  ·simp only [h2,bne_self_eq_false,Bool.false_eq_true,if_false,not_true_eq_false]
   cases hp:cu l e.Item.ID with
   | some k =>
    have d:decide ((k:Int) ≥ 0)=true:=by simp
    simp [d,kO]
   | none =>
    have d:decide ((-1:Int) ≥ 0)=false:=by simp
    simp only [d,Bool.false_eq_true,if_false,Option.isSome_none]
    by_cases h4:40≤l.length
    ·have d:((l.length:Int) == 40)=true:=by rw [beq_iff_eq]; omega
     simp only [d,h4,if_true]; rfl
    ·have d:((l.length:Int) == 40)=false:=by rw [beq_eq_false_iff_ne]; omega
     simp only [d,h4,if_false,Bool.false_eq_true]
     rw [G2 h.sort (by omega) (by omega)]
     simp only [Option.bind_some,kO,if_true]
     rw [DE hp]; rfl
  ·have d:(e.Item.Version != 1)=true:=by simp [h2]
   simp only [d,h2,if_true,not_false_eq_true]; rfl
 ·have d:(iW e.Item != 0)=true:=by simp [h1]
  simp [d,h1,kO]
theorem nz {F:Nat} {l:List aq} (h:gZ l) (hF:400<F) {j:Nat} (hj:j<l.length) {vs:List ai} {ap:List Bool} {us:List az} {w:Bool} {c:Int} (hc:l[j].ID=c) (hp:cu l c=some j):ui F ⟨l⟩ ⟨l[j].ID,vs,ap,us,w⟩=some ⟨l.set j ⟨l[j].ID,vs,ap,us,w⟩⟩:=by
 rw [G2 h.sort (by have:=h.len; omega) (by have:=h.len; omega),DF h.sort hj (by show cu l l[j].ID=_; rw [hc]; exact hp)]
theorem Ds {F:Nat} {l:List aq} {e:ax} (h:gZ l) (hF:400<F) (hk:e.Kind=2):yg F ⟨l⟩ e.Item=some (kO (cW l e)):=by
 have hlen:=h.len
 unfold yg cW
 rw [tr (by omega),pz (by omega) (by omega)]
 simp only [Option.bind_some,hk,show ¬ ((2:Int)=1) by omega,if_false,if_true]
 by_cases h1:iW e.Item=0
 ·simp only [h1,bne_self_eq_false,Bool.false_eq_true,if_false,ne_eq,not_true_eq_false]
  unfold kY
  simp only [GQ,hk,if_true]
  cases hp:cu l e.Item.ID with
  | none=>rfl
  | some j =>
   obtain ⟨iu,bC⟩:=dV hp
   have hr:=h.ok l[j] (List.getElem_mem iu)
   have d:decide ((j:Int)<0)=false:=by simp
   simp only [d,Bool.false_eq_true,if_false,dx iu,List.getElem?_eq_getElem iu,Option.bind_some,jU,hk,if_true]
   have hw:i64 ((l[j].ae.length:Int)+1)=(l[j].ae.length:Int)+1:=by have:=hr.n8; rw [cQ (by omega) (by omega)]
   rw [hw]
   by_cases h2:l[j].ab=true ∨ e.Item.Version ≠ (l[j].ae.length:Int)+1
   ·have d:(l[j].ab || e.Item.Version != (l[j].ae.length:Int)+1)=true:=by simpa using h2
    simp only [d,if_true,h2,show ¬ ((8:Int)=0) by omega,if_false]; rfl
   ·have d:(l[j].ab || e.Item.Version != (l[j].ae.length:Int)+1)=false:=by simpa using h2
    simp only [d,Bool.false_eq_true,if_false,h2]
    have q1:=hr.n8; have q2:=hr.ap
    rw [c8 (by simp; omega),Option.bind_some,c8 (by simp; omega),Option.bind_some,c8 (by simp; omega),Option.bind_some,c8 (by simp; omega),Option.bind_some]
    rw [nz h hF iu bC hp]
    simp [kO]
 ·have d:(iW e.Item != 0)=true:=by simp [h1]
  simp [d,h1,kO]
theorem Ei {l:List aq} {e:ax} {j:Nat} (iu:j<l.length):(if decide (((j:Nat):Int)<0)=true then some true else if decide (e.Ref.Version<1)=true then some true else (idx l (j:Int)).bind fun x6=>some (decide (e.Ref.Version > (x6.ae.length:Int))))=some (decide (nZ e l[j])):=by
 have d:decide ((j:Int)<0)=false:=by simp
 simp only [d,Bool.false_eq_true,if_false,dx iu,Option.bind_some,u4]
 congr 1
 refine JM ?_
 rw [decide_eq_true_eq]
 unfold nZ
 simp only [Bool.or_eq_true,decide_eq_true_eq]
theorem AR {F:Nat} {l:List aq} {e:ax} (h:gZ l) (hF:400<F) (hk:e.Kind=3):yb F ⟨l⟩ e.Ref=some (kO (cW l e)):=by
 have hlen:=h.len
 unfold yb cW kY
 rw [pz (by omega) (by omega)]
 simp only [Option.bind_some,hk,GQ,show ¬ ((3:Int)=1) by omega,show ¬ ((3:Int)=2) by omega,if_false,true_or,if_true]
 cases hp:cu l e.Ref.ID with
 | none=>simp [kO]
 | some j =>
  obtain ⟨iu,bC⟩:=dV hp
  have hr:=h.ok l[j] (List.getElem_mem iu)
  simp only [Ei iu,Option.bind_some,List.getElem?_eq_getElem iu,jU,hk,show ¬ ((3:Int)=2) by omega,if_false,if_true]
  by_cases hb:nZ e l[j]
  ·simp only [hb,decide_true,if_true,show ¬ ((4:Int)=0) by omega,if_false]; rfl
  ·obtain ⟨q1,q2⟩:=Bh hr hb
   simp only [hb,decide_false,Bool.false_eq_true,if_false,dx iu,Option.bind_some]
   by_cases hw:l[j].ab=true
   ·simp only [hw,if_true,show ¬ ((8:Int)=0) by omega,if_false]; rfl
   ·simp only [hw,if_false,q1,Option.bind_some,Bool.false_eq_true]
    by_cases ha:qV e l[j]=true
    ·simp only [ha,if_true,show ¬ ((5:Int)=0) by omega,if_false]; rfl
    ·have q3:=hr.n8; have q4:=hr.ap
     simp only [ha,if_false,Bool.false_eq_true]
     rw [c8 (by simp; omega),Option.bind_some,List.nil_append,q1,Option.bind_some,nz h hF iu bC hp,q2]
     simp [kO]
theorem LG {F:Nat} {l:List aq} {e:ax} (h:gZ l) (hF:400<F) (hk:e.Kind=4):lg F ⟨l⟩ e.Ref e.Form e.ar.Time=some (kO (cW l e)):=by
 have hlen:=h.len
 unfold lg cW kY
 rw [pz (by omega) (by omega)]
 simp only [Option.bind_some,hk,GQ,show ¬ ((4:Int)=1) by omega,show ¬ ((4:Int)=2) by omega,show ¬ ((4:Int)=3) by omega,if_false,true_or,or_true,if_true]
 cases hp:cu l e.Ref.ID with
 | none=>simp [kO]
 | some j =>
  obtain ⟨iu,bC⟩:=dV hp
  have hr:=h.ok l[j] (List.getElem_mem iu)
  simp only [Ei iu,Option.bind_some,List.getElem?_eq_getElem iu,jU,hk,show ¬ ((4:Int)=2) by omega,show ¬ ((4:Int)=3) by omega,if_false,if_true]
  by_cases hb:nZ e l[j]
  ·simp only [hb,decide_true,if_true,show ¬ ((4:Int)=0) by omega,if_false]; rfl
  ·obtain ⟨q1,q2⟩:=Bh hr hb
   have hu:=hr.us
   simp only [hb,decide_false,Bool.false_eq_true,if_false,dx iu,Option.bind_some,q1,u4]
   by_cases hw:l[j].ab=true ∨ qV e l[j]=false
   ·have d:(l[j].ab || !(qV e l[j]))=true:=by simpa using hw
    simp only [d,hw,if_true,show ¬ ((8:Int)=0) by omega,if_false]; rfl
   ·have d:(l[j].ab || !(qV e l[j]))=false:=by simpa using hw
    simp only [d,hw,if_false,Bool.false_eq_true]
    have l1:=jP (a:=l[j].Uses) (L:=tk F ⟨l⟩ e.Ref e.Form e.ar.Time l[j]) (F:=F) (fun _ u=>if (!(u.Form == e.Form))=true then .none else some ((aM.mk []:aM),(5:Int))) (some (kO (if 300≤l[j].Uses.length then (3,l) else (0,l.set j ⟨l[j].ID,l[j].ae,l[j].ah,l[j].Uses++[⟨e.Ref.Version,e.Form,e.ar.Time⟩],l[j].ab⟩)))) (by omega) (fun n i u E8 hi=>?_) (fun n=>?_) (by omega)
    ·rw [l1,j6 (fun _ (u:az)=>!(u.Form == e.Form)),o5]
     have ea:(l[j].Uses.all fun u=>!(u.Form == e.Form))=!(l[j].Uses.any fun u=>u.Form == e.Form):=by
      rw [List.not_any_eq_all_not]
     rw [ea]
     cases (l[j].Uses.any fun u=>u.Form == e.Form) with
     | true=>simp [kO]
     | false =>
      simp only [Bool.not_false,if_true,Bool.false_eq_true,if_false]
      by_cases h3:300≤l[j].Uses.length
      ·simp [h3]
      ·simp [h3]
    ·simp only [tk,xX,jT E8,if_true,jY E8,Option.bind_some,jH hi]
     cases (u.Form == e.Form) <;> simp
    ·simp only [tk,xX,jC,Bool.false_eq_true,if_false]
     by_cases h3:300≤l[j].Uses.length
     ·have d3:((l[j].Uses.length:Int) == 300)=true:=by rw [beq_iff_eq]; omega
      simp only [d3,h3,if_true]; rfl
     ·have d3:((l[j].Uses.length:Int) == 300)=false:=by rw [beq_eq_false_iff_ne]; omega
      simp only [d3,h3,if_false,Bool.false_eq_true]
      rw [c8 (by simp; omega),Option.bind_some,c8 (by simp; omega),Option.bind_some,nz h hF iu bC hp]
      simp [kO]
theorem qJ {F:Nat} {l:List aq} {e:ax} (h:gZ l) (hF:400<F) (hk:e.Kind=5 ∨ e.Kind=6):Dn F ⟨l⟩ e.Ref.ID (decide (e.Kind=5))=some (kO (cW l e)):=by
 have n1:¬ e.Kind=1:=by omega
 have n2:¬ e.Kind=2:=by omega
 have n3:¬ e.Kind=3:=by omega
 have n4:¬ e.Kind=4:=by omega
 have hlen:=h.len
 unfold Dn cW kY
 rw [pz (by omega) (by omega)]
 simp only [Option.bind_some,n1,n2,n3,n4,hk,GQ,if_false,false_or,if_true]
 cases hp:cu l e.Ref.ID with
 | none=>simp [kO]
 | some j =>
  obtain ⟨iu,bC⟩:=dV hp
  have d:decide ((j:Int)<0)=false:=by simp
  simp only [d,Bool.false_eq_true,if_false,dx iu,List.getElem?_eq_getElem iu,Option.bind_some,jU,n2,n3,n4,beq_iff_eq]
  by_cases hw:l[j].ab=decide (e.Kind=5)
  ·simp only [hw,if_true,show ¬ ((8:Int)=0) by omega,if_false]; rfl
  ·simp only [hw,if_false,if_true]
   rw [nz h hF iu bC hp]
   simp [kO]
theorem Gy {F:Nat} {l:List aq} {e:ax} (hF:400<F):yl F ⟨l⟩ e=some (⟨(rX l e).1⟩,(rX l e).2):=by
 unfold yl
 rw [yG hF]
 simp only [Option.bind_some]
 cases hv:gK l with
 | false=>simp [rX,hv]
 | true =>
  have h:=kb.1 hv
  rw [rY h]
  simp only [Bool.not_true,Bool.false_eq_true,if_false,beq_iff_eq]
  have fin:∀ c:Int × List aq,some ((kO c).1,(kO c).2)=some (aM.mk (if c.1=0 then (c.2,(0:Int)) else ([],c.1)).1,(if c.1=0 then (c.2,(0:Int)) else ([],c.1)).2):=fun c=>by
   unfold kO
   by_cases h0:c.1=0 <;> simp [h0]
  by_cases h1:e.Kind=1
  ·have e1:cW l e=kK l e:=by unfold cW; rw [if_pos h1]
   simp only [h1,if_true,GA h hF,Option.bind_some]
   rw [e1]; exact fin _
  ·by_cases h2:e.Kind=2
   ·simp only [h2,show ¬ ((2:Int)=1) by omega,if_false,if_true,Ds h hF h2,Option.bind_some]
    exact fin _
   ·by_cases h3:e.Kind=3
    ·simp only [h3,show ¬ ((3:Int)=1) by omega,show ¬ ((3:Int)=2) by omega,if_false,if_true,AR h hF h3,Option.bind_some]
     exact fin _
    ·by_cases h4:e.Kind=4
     ·simp only [h4,show ¬ ((4:Int)=1) by omega,show ¬ ((4:Int)=2) by omega,show ¬ ((4:Int)=3) by omega,if_false,if_true,LG h hF h4,Option.bind_some]
      exact fin _
     ·by_cases h5:e.Kind=5
      ·have:=qJ h hF (.inl h5)
       rw [show decide (e.Kind=5)=true by simp [h5]] at this
       simp only [h1,h2,h3,h4,h5,if_false,if_true,this,Option.bind_some,show ¬ ((5:Int)=1) by omega,show ¬ ((5:Int)=2) by omega,show ¬ ((5:Int)=3) by omega,show ¬ ((5:Int)=4) by omega]
       exact fin _
      ·by_cases h6:e.Kind=6
       ·have:=qJ h hF (.inr h6)
        rw [show decide (e.Kind=5)=false by simp [h5]] at this
        simp only [h6,if_false,if_true,this,Option.bind_some,show ¬ ((6:Int)=1) by omega,show ¬ ((6:Int)=2) by omega,show ¬ ((6:Int)=3) by omega,show ¬ ((6:Int)=4) by omega,show ¬ ((6:Int)=5) by omega]
        exact fin _
       ·have e1:cW l e=(2,l):=by unfold cW; simp [h1,h2,h3,h4,h5,h6]
        simp only [h1,h2,h3,h4,h5,h6,if_false,e1]
        simp
theorem AT {F:Nat} {u:Int} {c:List ax} {z:Int} (hF:400<F) (hb:c.length<1000000) (hs:c.Pairwise fun a b=>a.ar.Time≤b.ar.Time):∀ (s p:List ax) (n:Nat) (l:List aq) (r:List b7),c=p++s→s.length<n→gZ l→r.length≤p.length→AQ F u (c,z) n (p.length:Int) l r=some (⟨(jv (kr u s) l r).1⟩,(jv (kr u s) l r).2,0):=by
 intro s
 induction s with
 | nil=>intro p n l r hp hn hv hr; cases n with
  | zero=>omega
  | succ n =>
   have:c=p:=by simpa using hp
   subst this
   simp only [AQ,xQ,Int.lt_irrefl,decide_false,Bool.false_eq_true,if_false,kr,List.takeWhile_nil,jv]
 | cons e s ih=>intro p n l r hp hn hv hr; cases n with
  | zero=>omega
  | succ n =>
   have hlen:p.length<1000000:=by rw [hp] at hb; simp at hb; omega
   have d1:decide ((p.length:Int)<(c.length:Int))=true:=by rw [hp]; exact Hn p e s
   have i1:idx c (p.length:Int)=some e:=by rw [hp]; exact jq p e s
   have rf:=hs
   rw [hp] at rf
   have RV:=(List.pairwise_append.1 rf).2.1
   simp only [AQ,xQ,d1,if_true,i1,Option.bind_some]
   by_cases hu:e.ar.Time≤u
   ·have d2:decide (e.ar.Time > u)=false:=by simp; omega
    have hw:kr u (e :: s)=e :: kr u s:=by unfold kr; rw [List.takeWhile_cons_of_pos (by simpa using hu)]
    simp only [d2,Bool.false_eq_true,if_false,Gy hF,Option.bind_some,rY hv,hw,jv]
    rw [Lj p e (by omega)]
    by_cases h0:(cW l e).1=0
    ·simp only [h0,if_true,bne_self_eq_false,Bool.false_eq_true,if_false]
     exact ih (p++[e]) n _ r (by rw [hp]; simp) (by simpa using hn) (qe hv) (by simp; omega)
    ·have Hw:((cW l e).1 != 0)=true:=by simp [h0]
     simp only [h0,if_false,Hw,if_true]
     rw [c8 (by simp; omega),Option.bind_some,A0 h0]
     exact ih (p++[e]) n l _ (by rw [hp]; simp) (by simpa using hn) hv (by simp; omega)
   ·have d2:decide (e.ar.Time > u)=true:=by simp; omega
    have hw:kr u (e :: s)=[]:=by unfold kr; rw [List.takeWhile_cons_of_neg (by simpa using hu)]
    have qC:kr u s=[]:=by
     unfold kr
     cases s with
     | nil=>rfl
     | cons x s' =>
      have:=(List.pairwise_cons.1 RV).1 x (by simp)
      rw [List.takeWhile_cons_of_neg (by simp; omega)]
    simp only [d2,if_true,hw]
    rw [Lj p e (by omega),ih (p++[e]) n l r (by rw [hp]; simp) (by simpa using hn) hv (by simp; omega),qC]
theorem zN (l:List ax):(G8 (fun x:ax=>x.ar) l).Pairwise fun a b=>a.ar.Time≤b.ar.Time:=(Ew (fun x:ax=>x.ar) l).sorted.imp fun h=>by rw [hD] at h; omega
theorem H7 {F:Nat} (hF:400<F) {ev:List ax} {u:Int} (hc:qo F ev) (hb:ev.length<1000000) (Rk:ev.length<F):yq F ev u=some (⟨(lH ev u).1⟩,(lH ev u).2.1,(lH ev u).2.2):=by
 unfold yq lH
 rw [vo hc hb Rk]
 simp only [Option.bind_some]
 have hle:=sa (fun x:ax=>x.ar) ev
 have hs:(gz (fun x:ax=>x.ar) ev).1.Pairwise fun a b=>a.ar.Time≤b.ar.Time:=by
  unfold gz
  split
  ·simp
  ·exact zN ev
 generalize gz (fun x:ax=>x.ar) ev=c at hle hs
 by_cases h0:c.2=0
 ·simp only [h0,bne_self_eq_false,Bool.false_eq_true,if_false,ne_eq,not_true_eq_false]
  have:=AT (c:=c.1) (u:=u) (z:=c.2) hF (by omega) hs c.1 [] F [] [] rfl (by omega) pN (by simp)
  exact this
 ·have:(c.2 != 0)=true:=by simp [h0]
  simp [this,h0]
end Go.Sh
namespace Go.Sh
open Go.L
def nw:List Bool→Nat→Int→Int
 | [],_,c=>c
 | b :: s,i,c=>nw s (i+1) (if b=true then (i:Int)+1 else c)
def uJ (l:List Bool) (j:Nat):Int:=match qD l j with | some k=>(k:Int)+1 | .none=>0
theorem BJ {l:List Bool}:∀ (s p:List Bool) (c:Int),l=p++s→c=uJ l p.length→nw s p.length c=uJ l l.length
  | [], p, c, hp, hc => by have : l = p := by simpa using hp
                           subst this; exact hc
  | b :: s,p,c,hp,hc=>by
    unfold nw
    have e1:p.length+1=(p++[b]).length:=by simp
    rw [e1]
    refine BJ s (p++[b]) _ (by rw [hp]; simp) ?_
    rw [← e1]
    have hg:l.getD p.length false=b:=by rw [hp]; simp
    unfold uJ qD
    rw [hg]
    cases b with
    | true=>simp
    | false=>simp only [Bool.false_eq_true,if_false]; rw [hc]; rfl
theorem GF {aH:Int→List aG→Option (List aG)} {p1 p2 n10 n14:Int} {cF:List aG} {x:aq} (hw:i64 (p1 - p2)=p1 - p2) (hu:x.Uses.length<1000000) (hl:cF.length<1000000):∀ (s p:List az) (n:Nat) (b:Bool),x.Uses=p++s→s.length<n →
  yu aH p1 p2 n10 cF x n14 n b (p.length:Int)=if (b && s.all fun u=>decide (u.Time≤p1 - p2))=true then aH (i64 (n10+1)) (cF++[⟨x.ID,n14⟩]) else aH (i64 (n10+1)) cF
 | [],p,0,b,hp,hn=>by simp at hn
 | [],p,n+1,b,hp,hn=>by
  have tQ:x.Uses.length=p.length:=by rw [hp]; simp
  simp only [yu,Gs,tQ,jC,Bool.false_eq_true,if_false,List.all_nil,Bool.and_true]
  cases b with
  | true=>simp only [if_true]; rw [c8 (by simp; omega),Option.bind_some]
  | false=>simp
 | u :: s,p,0,b,hp,hn=>by simp at hn
 | u :: s,p,n+1,b,hp,hn=>by
  have hx:x.Uses[p.length]?=some u:=by rw [hp]; simp
  have hi:p.length<1000000:=by have:=(List.getElem?_eq_some_iff.1 hx).1; omega
  simp only [yu,Gs,jT hx,if_true,jY hx,Option.bind_some,jH hi,hw]
  have e1:p.length+1=(p++[u]).length:=by simp
  rw [e1]
  have ih:=fun b'=>GF (aH:=aH) (n10:=n10) (n14:=n14) (cF:=cF) hw hu hl s (p++[u]) n b' (by rw [hp]; simp) (by simp only [List.length_cons] at hn; omega)
  cases b with
  | true=>simp only [if_true,Option.bind_some,ih,List.all_cons,Bool.true_and]
  | false=>simp only [Bool.false_eq_true,if_false,Option.bind_some,ih,Bool.false_and]
theorem GD {aH:Int→List aG→Option (List aG)} {F:Nat} {p1 p2 p3 n10:Int} {cF:List aG} {x:aq} (ha:x.ah.length<1000000):∀ (s p:List Bool) (n:Nat) (c:Int),x.ah=p++s→s.length<n →
  AL aH F p1 p2 p3 n10 cF x n c (p.length:Int)=yu aH p1 p2 n10 cF x (nw s p.length c) F ((!x.ab) && ((decide (nw s p.length c > 0)) && (decide ((x.Uses.length:Int)≤p3)))) 0
 | [],p,0,c,hp,hn=>by simp at hn
 | [],p,n+1,c,hp,hn=>by
  have tQ:x.ah.length=p.length:=by rw [hp]; simp
  simp only [AL,Gr,tQ,jC,Bool.false_eq_true,if_false,nw]
  rfl
 | b :: s,p,0,c,hp,hn=>by simp at hn
 | b :: s,p,n+1,c,hp,hn=>by
  have hx:x.ah[p.length]?=some b:=by rw [hp]; simp
  have hi:p.length<1000000:=by have:=(List.getElem?_eq_some_iff.1 hx).1; omega
  have e1:p.length+1=(p++[b]).length:=by simp
  have Bz:((p.length+1:Nat):Int)=(p.length:Int)+1:=rfl
  have ih:=fun c'=>GD (aH:=aH) (F:=F) (p1:=p1) (p2:=p2) (p3:=p3) (n10:=n10) (cF:=cF) ha s (p++[b]) n c' (by rw [hp]; simp) (by simp only [List.length_cons] at hn; omega)
  rw [← e1,Bz] at ih
  simp only [AL,Gr,jT hx,if_true,jY hx,Option.bind_some,jH hi,Bz]
  cases b with
  | true=>simp only [if_true,ih,nw]
  | false=>simp only [Bool.false_eq_true,if_false,ih,nw]
theorem HT (l:List az) (z:Int):(l.all fun u=>decide (u.Time≤z))=!(l.any fun u=>decide (u.Time > z)):=by
 induction l with
 | nil=>rfl
 | cons u l ih =>
  simp only [List.all_cons,List.any_cons,ih,Bool.not_or]
  congr 1
  by_cases h:u.Time≤z <;> simp [h] <;> omega
theorem qI {F : Nat} {l : List aq} {time rest dE : Int} (hF : 400 < F) : Dl F ⟨l⟩ time rest dE = some (nO l time rest dE) := by
  unfold Dl nO
  rw [yG hF]
  simp only [Option.bind_some,u4]
  by_cases hc:gK l=false ∨ time<0 ∨ time > 1000000 ∨ rest<0 ∨ rest > 1000000 ∨ dE<0
  · have d:(!(gK l) || (decide (time<0) || (decide (time > 1000000) || (decide (rest<0) || (decide (rest > 1000000) || decide (dE<0))))))=true:=by simpa using hc
    simp only [d,if_true,hc]
  · have d : (!(gK l) || (decide (time < 0) || (decide (time > 1000000) || (decide (rest < 0) || (decide (rest > 1000000) || decide (dE < 0)))))) = false := by simpa using hc
    simp only [d,Bool.false_eq_true,if_false,hc]
    simp only [not_or,Bool.not_eq_false] at hc
    obtain ⟨hv,h1,h2,h3,h4,h5⟩:=hc
    have hV:=kb.1 hv
    have hS:=hV.sh hF
    have hw:i64 (time - rest)=time - rest:=by rw [cQ (by omega) (by omega)]
    have hlen:=hV.len
    have:=yF (a:=l) (L:=vU F ⟨l⟩ time rest dE) (s0:=([]:List aG)) (F:=F) (fun _ x s=>(.inr (s++(Hp time rest dE x).toList):List aG ⊕ List aG)) id (fun i s=>s.length≤i) hS.l1 (fun n i x s hx hI=>?_) (fun n s hI=>?_) hS.l2 (by simp)
    · rw [this,kQ]; simp
    · have IZ:=List.mem_of_getElem? hx
      have hi:i<1000000:=by have:=(List.getElem?_eq_some_iff.1 hx).1; omega
      have gv:=hV.ok x IZ
      refine ⟨?_, by simp only [List.length_append]; have : (Hp time rest dE x).toList.length ≤ 1 := by cases Hp time rest dE x <;> simp
                     omega⟩
      have hA:=(hS.r x IZ).a
      have hU:=(hS.r x IZ).u
      simp only [vU,Gq,jT hx,if_true,jY hx,Option.bind_some]
      have r2:=GD (aH:=vU F ⟨l⟩ time rest dE n) (F:=F) (p1:=time) (p2:=rest) (p3:=dE) (n10:=(i:Int)) (cF:=s) (x:=x) hA.1 x.ah [] F 0 rfl hA.2
      rw [BJ (l:=x.ah) x.ah [] 0 rfl rfl] at r2
      have r3:=GF (aH:=vU F ⟨l⟩ time rest dE n) (n10:=(i:Int)) (n14:=uJ x.ah x.ah.length) (cF:=s) (x:=x) hw hU.1 (by omega) x.Uses [] F ((!x.ab) && ((decide (uJ x.ah x.ah.length > 0)) && (decide ((x.Uses.length:Int)≤dE)))) rfl hU.2
      refine Eq.trans r2 (Eq.trans r3 ?_)
      rw [jH hi,HT]
      unfold Hp uJ
      cases Wv:x.ab with
      | true=>simp
      | false =>
        by_cases hm:(x.Uses.length:Int) > dE
        · have gW:¬ (x.Uses.length:Int)≤dE:=by omega
          simp [hm,gW]
        · have gW:(x.Uses.length:Int)≤dE:=by omega
          cases hu:(x.Uses.any fun u=>decide (u.Time > time - rest)) with
          | true=>simp [hm,gW]
          | false =>
            cases hl:qD x.ah x.ah.length with
            | none=>simp [hm,gW]
            | some k =>
              have hk:(0:Int)<(k:Int)+1:=by omega
              simp [hm,gW,hk]
    · simp only [vU,Gq,jC,Bool.false_eq_true,if_false]; rfl
theorem mg.set {F:Nat} {l:List aq} (h:mg F l) {r:aq} (hr:Bf F r):mg F (l.set 0 r) :=
 ⟨by simpa using h.l1,by simpa using h.l2,fun x hx=>(List.mem_or_eq_of_mem_set hx).elim (h.r x) (fun he=>he ▸ hr)⟩
theorem JN {F:Nat} {t:aN} (h:Tp t) (n:Int) (hn:n≤1000000) (hF:2000≤F):cM (LY F t n) fun r=>Tp r.2∧mg F r.1.aa:=by
 unfold LY
 obtain ⟨l,t1,a1,a2,a3,a4⟩:=vi (F:=F) h 14 0 (by omega) (by omega) (by omega)
 rw [show (14:Int)=((14:Nat):Int) from rfl,a1]; simp only [Option.bind_some]
 rw [H7 (by omega) (a4.short (by omega)) (by omega) (by omega)]; simp only [Option.bind_some]
 have hV:=Cm (ev:=l) (u:=1000000)
 have hS:=hV.sh (F:=F) (by omega)
 generalize (lH l 1000000).1=b at hV hS
 have w1:cM (if (decide (n > 0))=true then (nW t1 n).bind fun r8=>if r8.1=true then some ((decide ((b.length:Int) > 0)),r8.2.L,r8.2.At) else some (false,r8.2.L,r8.2.At) else some (false,t1.L,t1.At)) fun w=>Tp (aN.mk w.2.1 w.2.2)∧(w.1=true→0<b.length):=by
  refine cM.ite (fun _=>?_) (fun _=>cM.pure ⟨a2,fun h=>by cases h⟩)
  refine (H2 a2 n (by omega)).bind fun r hr=>?_
  exact cM.ite (fun _=>cM.pure ⟨hr.mk',fun h=>by simpa using h⟩) (fun _=>cM.pure ⟨hr.mk',fun h=>by cases h⟩)
 refine w1.bind fun w hw=>?_
 refine cM.ite (fun ND=>?_) (fun _=>cM.pure ⟨hw.1,hS⟩)
 have hb:=hw.2 ND
 have hlen:=hV.len
 refine cM.idx (by omega) (by simpa using hb) fun x hx IY=>?_
 have hR:=hS.r x hx
 have gv:=hV.ok x hx
 have h8:=gv.n8; have JV:=gv.ap; have Fb:=gv.us
 refine (jg hw.1 4 (by omega)).bind fun cI L5=>?_
 refine cM.ite (fun _=>?_) (fun _=>?_)
 ·refine cM.app (by simp; omega) ?_
  refine cM.app (by simp; omega) ?_
  refine cM.idx (by omega) (by simpa using hb) fun y hy HN=>?_
  exact cM.pure ⟨L5.1,hS.set ⟨hR.vl,hR.v,by simp; omega,hR.u⟩⟩
 ·refine cM.ite (fun _=>?_) (fun _=>?_)
  ·refine (jg L5.1 5 (by omega)).bind fun jK UP=>?_
   refine cM.app (by simp; omega) ?_
   refine cM.idx (by omega) (by simpa using hb) fun y hy HN=>?_
   exact cM.pure ⟨UP.1,hS.set ⟨hR.vl,hR.v,hR.a,hR.u⟩⟩
  ·refine cM.ite (fun _=>?_) (fun _=>?_)
   ·refine (iK L5.1 0 9 (by omega) (by omega) (by omega)).bind fun jL UQ=>?_
    refine cM.app (by simp; omega) ?_
    refine cM.app (by simp; omega) ?_
    refine cM.idx (by omega) (by simpa using hb) fun y hy HN=>?_
    exact cM.pure ⟨UQ.1,hS.set ⟨hR.vl,hR.v,hR.a,by simp; omega⟩⟩
   ·refine cM.app (by simp; omega) ?_
    refine cM.app (by simp; omega) ?_
    refine cM.idx (by omega) (by simp) fun y hy HN=>?_
    refine cM.pure ⟨L5.1,mg.set ⟨by simp; omega,by simp; omega,fun z hz=>?_⟩ hR⟩
    rcases List.mem_append.1 (by simpa using hz:z ∈ b++[x]) with hz | hz
    ·exact hS.r z hz
    ·rw [List.mem_singleton.1 hz]; exact hR
theorem mg.find {F:Nat} {l:List aq} (h:mg F l) (hF:0<F) (c:Int):Bf F (IB l c).1:=by
 unfold IB
 cases hf:l.find? (fun r=>decide (r.ID=c)) with
 | none=>exact ⟨by simp [G3]; omega,by simp [G3],by simp [G3]; omega,by simp [G3]; omega⟩
 | some x=>exact h.r x (List.mem_of_find?_eq_some hf)
theorem Eu {L1 L2:Nat→Int→Option Bool} {a b:List aG} {e:Bool} {F:Nat} (pd:a=b) (hb:a.length<1000000) (hF:a.length<F)
  (hs:∀ n (i:Nat) x,a[i]?=some x→i<1000000→L1 (n+1) (i:Int)=L1 n ((i+1:Nat):Int)) (he:∀ n,L1 (n+1) (a.length:Int)=some true):L1 F 0=some true:=by
 have:=gx (a:=a) (L:=L1) (F:=F) (fun _ _=>(.none:Option Bool)) true hb (fun n i x hx hi=>hs n i x hx hi) he hF
 rw [this]
 congr 1
 have:∀ (a:List aG) (i:Nat),scan (fun _ _=>(.none:Option Bool)) true i a=true:=by
  intro a
  induction a with
  | nil=>intro i; rfl
  | cons x a ih=>intro i; unfold scan; exact ih _
 exact this _ _
theorem uA {l:List aq} {time rest dE:Int}:(nO l time rest dE).length≤40:=by
 unfold nO
 split
 ·simp
 ·rename_i hc
  simp only [not_or,Bool.not_eq_false] at hc
  exact Nat.le_trans (List.length_filterMap_le _ _) (kb.1 hc.1).len
theorem CQ (t:List Int) (time rest dE:Int):∃ F,BQ F t time rest dE=some true:=by
 refine ⟨2000,?_⟩
 obtain ⟨t0,a1,a2⟩:=O2 t
 obtain ⟨⟨⟨l⟩,t2⟩,c1,c2,hS⟩:=JN (F:=2000) a2 8 (by omega) (by omega)
 obtain ⟨ti,d1,d2,d3,_⟩:=Bm time 40 (by omega)
 obtain ⟨re,e1,e2,e3,_⟩:=Bm rest 30 (by omega)
 obtain ⟨mo,f1,f2,f3,_⟩:=Bm dE 5 (by omega)
 unfold BQ
 rw [a1]; simp only [Option.bind_some]
 rw [c1]; simp only [Option.bind_some]
 rw [lq (by omega),qI (by omega)]; simp only [Option.bind_some]
 rw [d1]; simp only [Option.bind_some]
 rw [e1]; simp only [Option.bind_some]
 rw [f1]; simp only [Option.bind_some]
 rw [lq (by omega),qI (by omega)]; simp only [Option.bind_some,bne_self_eq_false,Bool.or_self,Bool.false_eq_true,if_false]
 have n1:=uA (l:=l) (time:=time) (rest:=rest) (dE:=dE)
 have n2:=uA (l:=l) (time:=ti) (rest:=re) (dE:=mo)
 generalize nO l time rest dE=A at n1
 generalize nO l ti re mo=B at n2
 refine Eu (L2:=fun _ _=>.none) (e:=true) (a:=A) rfl (by omega) (by omega) (fun n i x hx hi=>?_) (fun n=>?_)
 ·simp only [C4,F9,jT hx,if_true,jY hx,Option.bind_some,decide_true,Bool.not_true,Bool.false_eq_true,if_false,jH hi]
 ·simp only [C4,F9,jC,Bool.false_eq_true,if_false]
  refine Eu (L2:=fun _ _=>.none) (e:=true) (a:=B) rfl (by omega) (by omega) (fun n i x hx hi=>?_) (fun n=>?_)
  ·simp only [C5,Ga,jT hx,if_true,jY hx,Option.bind_some,decide_true,Bool.not_true,Bool.false_eq_true,if_false,jH hi]
  ·simp only [C5,Ga,jC,Bool.false_eq_true,if_false,Hl (Nat.le_refl 2000),Option.bind_some]
end Go.Sh
