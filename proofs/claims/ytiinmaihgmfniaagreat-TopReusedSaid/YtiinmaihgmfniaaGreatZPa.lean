import Derived.Test.YtiinmaihgmfniaaGreatZSh
set_option linter.unusedVariables false
set_option linter.unusedSimpArgs false
namespace Go.Sh
open Go.L
theorem cL {n:Int} (h1:-9223372036854775808≤n) (h2:n≤9223372036854775807):i64 n=n:=by
 show IntKind.i64.wrap n=n
 rw [IntKind.wrap_i64]; omega
theorem oD {α:Type} (l:List α) (i:Nat):idx l (i:Int)=l[i]?:=by
 unfold idx; simp
theorem kl {α:Type} {l:List α} {i:Int} {x:α}:idx l i=some x ↔ 0≤i∧l[i.toNat]?=some x:=by
 unfold idx; split
 ·simp_all
 ·constructor
  ·intro h; cases h
  ·intro h; omega
theorem kj {α:Type} {l:List α} {i:Nat} (h:i<l.length):idx l (i:Int)=some l[i]:=by
 rw [oD]; simp [h]
theorem nV {α:Type} (p:List α) (x:α) (s:List α):idx (p++x :: s) (p.length:Int)=some x:=by
 rw [oD]; simp
theorem fh {α:Type} {xs ys:List α} (h:xs.length+ys.length≤549755813888):app xs ys=some (xs++ys):=by unfold app; rw [if_pos h]
theorem Kl {α:Type} {xs:List α} {n:Nat} (h:n≤xs.length):Q5 xs 0 n=some (xs.take n):=by
 unfold Q5; rw [if_pos ⟨by omega,by omega,by omega⟩]; simp
theorem k8 {α:Type} {z:α} {n:Nat} (h:n≤1000000):vB z (n:Int)=some (List.replicate n z):=by
 unfold vB; rw [if_pos ⟨by omega,by omega⟩]; simp
theorem Ro {α:Type} (p:List α) (x:α) (s:List α):decide ((p.length:Int)<((p++x :: s).length:Int))=true:=by simp; omega
theorem Z6 {α:Type} (p:List α):decide ((p.length:Int)<((p++[]).length:Int))=false:=by simp
theorem VU {α:Type} (p:List α) (x:α) (h:p.length<1000000000):i64 ((p.length:Int)+1)=((p++[x]).length:Int):=by
 rw [cL (by omega) (by omega)]; simp
theorem snoc {α:Type} (p:List α) (x:α) (s:List α):p++x :: s=(p++[x])++s:=by simp
theorem I1 {α β R:Type} {L:Nat→α→β→Option R} {B:(α→β→Option R)→α→β→Option R} (hL:∀ n,L (n+1)=B (L n)) (I:α→β→Prop) (μ:α→β→Nat) (l0:R→Prop)
  (step:∀ rec a b,I a b→(∀ a' b',I a' b'→μ a' b'<μ a b→∃ r,rec a' b'=some r∧l0 r)→∃ r,B rec a b=some r∧l0 r):∀ n a b,I a b→μ a b<n→∃ r,L n a b=some r∧l0 r:=by
 intro n
 induction n with
 | zero=>intro a b _ h; omega
 | succ n ih=>intro a b hI h; rw [hL]; exact step _ a b hI fun a' b' h1 h2=>ih a' b' h1 (by omega)
theorem I2 {α β γ δ R:Type} {L:Nat→α→β→γ→δ→Option R} {B:(α→β→γ→δ→Option R)→α→β→γ→δ→Option R} (hL:∀ n,L (n+1)=B (L n)) (I:α→β→γ→δ→Prop) (μ:α→β→γ→δ→Nat) (l0:R→Prop)
  (step:∀ rec a b c d,I a b c d→(∀ a' b' c' d',I a' b' c' d'→μ a' b' c' d'<μ a b c d→∃ r,rec a' b' c' d'=some r∧l0 r)→∃ r,B rec a b c d=some r∧l0 r):∀ n a b c d,I a b c d→μ a b c d<n→∃ r,L n a b c d=some r∧l0 r:=by
 intro n
 induction n with
 | zero=>intro a b c d _ h; omega
 | succ n ih=>intro a b c d hI h; rw [hL]; exact step _ a b c d hI fun a' b' c' d' h1 h2=>ih a' b' c' d' h1 (by omega)
theorem TK {α β γ δ ε R:Type} {L:Nat→α→β→γ→δ→ε→Option R} {B:(α→β→γ→δ→ε→Option R)→α→β→γ→δ→ε→Option R} (hL:∀ n,L (n+1)=B (L n)) (I:α→β→γ→δ→ε→Prop) (μ:α→β→γ→δ→ε→Nat) (l0:R→Prop)
  (step:∀ rec a b c d e,I a b c d e→(∀ a' b' c' d' e',I a' b' c' d' e'→μ a' b' c' d' e'<μ a b c d e→∃ r,rec a' b' c' d' e'=some r∧l0 r)→∃ r,B rec a b c d e=some r∧l0 r):∀ n a b c d e,I a b c d e→μ a b c d e<n→∃ r,L n a b c d e=some r∧l0 r:=by
 intro n
 induction n with
 | zero=>intro a b c d e _ h; omega
 | succ n ih=>intro a b c d e hI h; rw [hL]; exact step _ a b c d e hI fun a' b' c' d' e' h1 h2=>ih a' b' c' d' e' h1 (by omega)
def nv (a b:Int):Int:=if a<b then -1 else if b<a then 1 else 0
theorem ou (a b:Int):cW a b=some (nv a b):=by
 simp only [cW,cmp_isNaN_int,nv,Option.bind_some,bne_self_eq_false,Bool.false_eq_true,if_false,decide_eq_true_eq,gt_iff_lt]
 repeat' split
 all_goals first | rfl | omega
def M7:List Int→Int
 | []=>0
 | x :: r=>if x=0 then M7 r else x
theorem L0 (s:List Int):∀ (p:List Int) (n:Nat),(p++s).length<1000000→s.length<n→fi (p++s) n (p.length:Int)=some (M7 s):=by
 induction s with
 | nil=>intro p n hb hn; cases n with
  | zero=>omega
  | succ n=>simp only [fi,fO,Z6,Bool.false_eq_true,if_false,M7]
 | cons x s ih=>intro p n hb hn; cases n with
  | zero=>omega
  | succ n =>
   simp only [fi,fO,Ro,nV,if_true,Option.bind_some,M7,bne_iff_ne,ne_eq]
   by_cases h:x=0
   ·simp only [h,not_true_eq_false,if_false,if_true]
    have hl:p.length<1000000000:=by simp at hb; omega
    rw [VU p 0 hl,snoc]
    exact ih (p++[0]) n (by simpa using hb) (by simpa using hn)
   ·simp [h]
theorem QO {F:Nat} {xs:List Int} (hb:xs.length<1000000) (hF:xs.length<F):ia F xs=some (M7 xs):=by
 have:=L0 xs [] F (by simpa using hb) hF
 simpa [ia] using this
def eh (x y:bE):Int:=if nv x.Source y.Source ≠ 0 then nv x.Source y.Source else nv x.Seq y.Seq
def jv (x y:bE):Int:=if nv x.Time y.Time ≠ 0 then nv x.Time y.Time else eh x y
theorem rJ {F:Nat} (hF:10≤F) (x y:bE):Gn F x y=some (eh x y):=by
 simp only [Gn,ou,Option.bind_some]
 rw [QO (by simp) (by simp; omega)]
 simp only [Option.bind_some,M7,eh]
 repeat' split
 all_goals simp_all
theorem uX {F:Nat} (hF:10≤F) (x y:bE):Bi F x y=some (jv x y):=by
 simp only [Bi,ou,Option.bind_some]
 rw [QO (by simp) (by simp; omega)]
 simp only [Option.bind_some,M7,jv,eh]
 repeat' split
 all_goals simp_all
def bE.pk (x:bE):Bool:=(decide (x.Time ≥ 0)) && ((decide (x.Time≤1000000)) && ((decide (x.Source ≥ 0)) && ((decide (x.Source≤99)) && ((decide (x.Seq ≥ 0)) && (decide (x.Seq≤9999))))))
theorem Mo (x:bE):ES x=some x.pk:=rfl
theorem pZ {a b : Int} : nv a b < 0 ↔ a < b := by unfold nv; repeat' split
                                                  all_goals omega
theorem j0 {a b : Int} : nv a b = 0 ↔ a = b := by unfold nv; repeat' split
                                                  all_goals omega
theorem fM {x y:bE}:eh x y<0 ↔ x.Source<y.Source ∨ x.Source=y.Source∧x.Seq<y.Seq:=by
 unfold eh; have:=@j0 x.Source y.Source; split
 ·rw [pZ]; simp_all
 ·rw [pZ]; simp_all
theorem eo {x y:bE}:eh x y=0 ↔ x.Source=y.Source∧x.Seq=y.Seq:=by
 unfold eh; have:=@j0 x.Source y.Source; have:=@j0 x.Seq y.Seq; split <;> simp_all
theorem jw {x y:bE}:jv x y<0 ↔ x.Time<y.Time ∨ x.Time=y.Time∧(x.Source<y.Source ∨ x.Source=y.Source∧x.Seq<y.Seq):=by
 unfold jv; have:=@j0 x.Time y.Time; split
 ·rw [pZ]; simp_all
 ·rw [fM]; simp_all
theorem Ck {x y:bE}:jv x y=0 ↔ x=y:=by
 have h1:=@j0 x.Time y.Time
 have h2:=@eo x y
 have h3:x=y ↔ x.Time=y.Time∧x.Source=y.Source∧x.Seq=y.Seq:=by cases x; cases y; simp
 unfold jv; split <;> simp_all
theorem Hr {x y:bE}:jv x y > 0 ↔ jv y x<0:=by
 rw [jw]
 unfold jv eh nv
 repeat' split
 all_goals omega
end Go.Sh
namespace Go.Sh
open Go.L
theorem pL {α:Type} {R:α→α→Prop} (hi:∀ a,¬ R a a) (ht:∀ a b c,R a b→R b c→R a c):∀ {xs ys:List α},xs.Pairwise R→ys.Pairwise R→(∀ a,a ∈ xs ↔ a ∈ ys)→xs=ys
 | [],[],_,_,_=>rfl
 | [],y :: ys,_,_,h=>by have:=(h y).2 (by simp); simp at this
 | x :: xs,[],_,_,h=>by have:=(h x).1 (by simp); simp at this
 | x :: xs,y :: ys,hx,hy,h=>by
  rw [List.pairwise_cons] at hx hy
  have wH:x=y:=by
   rcases List.mem_cons.1 ((h x).1 (by simp)) with h1 | h1
   ·exact h1
   ·rcases List.mem_cons.1 ((h y).2 (by simp)) with h2 | h2
    ·exact h2.symm
    ·exact absurd (ht _ _ _ (hx.1 y h2) (hy.1 x h1)) (hi x)
  subst wH
  congr 1
  refine pL hi ht hx.2 hy.2 fun a=>?_
  have:=h a
  simp only [List.mem_cons] at this
  constructor
  ·intro ha
   rcases this.1 (.inr ha) with h1 | h1
   ·subst h1; exact absurd (hx.1 a ha) (hi a)
   ·exact h1
  ·intro ha
   rcases this.2 (.inr ha) with h1 | h1
   ·subst h1; exact absurd (hy.1 a ha) (hi a)
   ·exact h1
def vV {α:Type} (lt:α→α→Bool) (x:α):List α→List α
 | []=>[x]
 | y :: r=>if lt x y then x :: y :: r else y :: vV lt x r
theorem zY {α:Type} {lt:α→α→Bool} {x a:α}:∀ {l:List α},a ∈ vV lt x l ↔ a=x ∨ a ∈ l
 | []=>by simp [vV]
 | y :: r=>by
  simp only [vV]
  split
  ·simp
  ·simp only [List.mem_cons,zY (l:=r)]
   constructor
   ·rintro (h | h | h) <;> simp [h]
   ·rintro (h | h | h) <;> simp [h]
theorem wY {α:Type} {lt:α→α→Bool} {x:α}:∀ {l:List α},(vV lt x l).Perm (x :: l)
 | []=>.refl _
 | y :: r=>by
  simp only [vV]
  split
  ·exact .refl _
  ·exact (wY.cons y).trans (List.Perm.swap x y r)
theorem sf {α:Type} {lt:α→α→Bool} {x:α}:∀ {l:List α},(∀ a ∈ x :: l,∀ b ∈ x :: l,∀ c ∈ x :: l,lt a b=true→lt b c=true→lt a c=true)→(∀ y ∈ l,lt x y=true ∨ lt y x=true)→l.Pairwise (fun a b=>lt a b=true)→(vV lt x l).Pairwise fun a b=>lt a b=true
 | [],_,_,_=>by simp [vV]
 | y :: r,ht,SV,hp=>by
  rw [List.pairwise_cons] at hp
  simp only [vV]
  split
  ·rename_i wH
   rw [List.pairwise_cons]
   refine ⟨fun a ha=>?_,List.pairwise_cons.2 hp⟩
   rcases List.mem_cons.1 ha with rfl | VD
   ·exact wH
   ·exact ht x (by simp) y (by simp) a (by simp [VD]) wH (hp.1 a VD)
  ·rename_i wH
   have G3:lt y x=true:=(SV y (by simp)).resolve_left wH
   rw [List.pairwise_cons]
   have lp:∀ a,a ∈ x :: r→a ∈ x :: y :: r:=fun a ha=>by rcases List.mem_cons.1 ha with h | h <;> simp [h]
   refine ⟨fun a ha=>?_,sf (fun a ha b hb c hc=>ht a (lp a ha) b (lp b hb) c (lp c hc)) (fun z hz=>SV z (by simp [hz])) hp.2⟩
   rcases zY.1 ha with rfl | ha
   ·exact G3
   ·exact hp.1 a ha
def qk {α:Type} (lt:α→α→Bool):List α→List α
 | []=>[]
 | x :: r=>vV lt x (qk lt r)
theorem ij {α:Type} {lt:α→α→Bool}:∀ {l:List α},(qk lt l).Perm l
 | []=>.refl _
 | x :: r=>wY.trans (ij.cons x)
theorem mw {α:Type} {lt:α→α→Bool}:∀ {l:List α},(∀ a ∈ l,∀ b ∈ l,∀ c ∈ l,lt a b=true→lt b c=true→lt a c=true)→l.Pairwise (fun a b=>lt a b=true ∨ lt b a=true)→(qk lt l).Pairwise fun a b=>lt a b=true
 | [],_,_=>by simp [qk]
 | x :: r,ht,hp=>by
  rw [List.pairwise_cons] at hp
  simp only [qk]
  have hm:∀ a,a ∈ x :: qk lt r→a ∈ x :: r:=fun a ha=>by
   rcases List.mem_cons.1 ha with h | h
   ·simp [h]
   ·simp [ij.mem_iff.1 h]
  exact sf (fun a ha b hb c hc=>ht a (hm a ha) b (hm b hb) c (hm c hc)) (fun y hy=>hp.1 y (ij.mem_iff.1 hy)) (mw (fun a ha b hb c hc=>ht a (by simp [ha]) b (by simp [hb]) c (by simp [hc])) hp.2)
theorem Bz {α:Type} {c:α→α→Option Int} {xs:List α} (cf:α→α→Int) (hlen:xs.length<1000000) (hc:∀ x ∈ xs,∀ y ∈ xs,c x y=some (cf x y)) (hi:∀ x ∈ xs,¬ cf x x<0) (ht:∀ x ∈ xs,∀ y ∈ xs,∀ z ∈ xs,cf x y<0→cf y z<0→cf x z<0)
  (hn:∀ x ∈ xs,∀ y ∈ xs,∀ z ∈ xs,¬ cf x y<0→¬ cf y z<0→¬ cf x z<0) (hd:xs.Pairwise fun a b=>cf a b<0 ∨ cf b a<0):∃ ys,qs c xs=some ys∧ys.Perm xs∧ys.Pairwise fun a b=>cf a b<0:=by
 have hs:=mw (lt:=fun a b=>decide (cf a b<0)) (l:=xs) (fun a ha b hb c hc=>by simpa using ht a ha b hb c hc) (by simpa using hd)
 have Iq:(qk (fun a b=>decide (cf a b<0)) xs).Pairwise fun a b=>cf a b<0:=by simpa using hs
 exact ⟨_,Kn ⟨ij,hlen,cf,hc,hi,ht,hn,Iq⟩,ij,Iq⟩
def Q4 (x y:bE):Prop:=x.Source=y.Source∧x.Seq=y.Seq
instance (x y:bE):Decidable (Q4 x y):=by unfold Q4; infer_instance
def z8 (l:List bE) (i:Nat):Prop:=∃ x,l[i]?=some x∧x.pk=true
def Hu (l:List bE) (cl:List Int) (i k:Nat):Prop:=∃ x y c d,l[i]?=some x∧l[k]?=some y∧cl[i]?=some c∧cl[k]?=some d∧Q4 x y∧(x.Time ≠ y.Time ∨ c ≠ d)
def counts (l:List bE) (cl:List Int) (i:Nat):Prop:=z8 l i∧∀ k,z8 l k→¬ Hu l cl i k∧(k<i→l[k]? ≠ l[i]?)
def uj (l:List bE) (a b:Int):Prop:=∃ x y,l[a.toNat]?=some x∧l[b.toNat]?=some y∧jv x y<0
structure lZ (l:List bE) (cl:List Int) (a:List Int):Prop where
 sorted:a.Pairwise (uj l)
 mem:∀ i,i ∈ a ↔ 0≤i∧counts l cl i.toNat
theorem I3 (l:List bE) (a:Int):¬ uj l a a:=by
 rintro ⟨x,y,h1,h2,h3⟩
 rw [h1] at h2; cases h2
 rw [jw] at h3; omega
theorem uk (l:List bE) (a b c:Int) (h:uj l a b) (h':uj l b c):uj l a c:=by
 obtain ⟨x,y,h1,h2,h3⟩:=h
 obtain ⟨y',z,h4,h5,h6⟩:=h'
 rw [h2] at h4; cases h4
 refine ⟨x,z,h1,h5,?_⟩
 rw [jw] at *; omega
theorem lZ.unique {l:List bE} {cl:List Int} {a b:List Int} (h:lZ l cl a) (h':lZ l cl b):a=b :=
 pL (I3 l) (uk l) h.sorted h'.sorted fun i=>by rw [h.mem,h'.mem]
def Canon (l:List bE) (cl:List Int) (r:List Int × Int):Prop :=
 if l.length ≠ cl.length then r=([],1) else ∃ a,lZ l cl a∧r=if 300<a.length then ([],3) else (a,0)
theorem Canon.unique {l:List bE} {cl:List Int} {r s:List Int × Int} (h:Canon l cl r) (h':Canon l cl s):r=s:=by
 unfold Canon at *
 split at h
 ·rename_i hl; rw [if_pos hl] at h'; rw [h,h']
 ·rename_i hl; rw [if_neg hl] at h'
  obtain ⟨a,h1,rfl⟩:=h
  obtain ⟨b,h2,rfl⟩:=h'
  rw [h1.unique h2]
end Go.Sh
namespace Go.Sh
open Go.L
theorem En {l:List bE} {i:Nat} (h:i<l.length):z8 l i ↔ l[i].pk=true:=by
 unfold z8; simp [h]
theorem LS {l:List bE} {i:Nat} (h:l.length≤i):¬ z8 l i:=by
 rintro ⟨x,h1,_⟩; rw [List.getElem?_eq_none h] at h1; cases h1
theorem Cm {l:List bE} {cl:List Int} {i k:Nat} (hi:counts l cl i) (hk:counts l cl k) (h:l[i]?=l[k]?):i=k:=by
 rcases Nat.lt_trichotomy i k with h1 | h1 | h1
 ·exact absurd h ((hk.2 i hi.1).2 h1)
 ·exact h1
 ·exact absurd h.symm ((hi.2 k hk.1).2 h1)
theorem lJ {l:List bE} {cl:List Int} {i:Nat} (h:counts l cl i):i<l.length:=by
 obtain ⟨⟨x,h1,_⟩,_⟩:=h
 exact (List.getElem?_eq_some_iff.1 h1).1
theorem tB {l:List bE} {cl:List Int} {i k:Nat} (hi:counts l cl i) (hk:counts l cl k) (h:i ≠ k):uj l i k ∨ uj l k i:=by
 have h1:=lJ hi
 have h2:=lJ hk
 have h3:l[i] ≠ l[k]:=fun he=>h (Cm hi hk (by simp [h1,h2,he]))
 have h4:¬ jv l[i] l[k]=0:=fun he=>h3 (Ck.1 he)
 rcases Int.lt_or_gt_of_ne h4 with h5 | h5
 ·exact .inl ⟨l[i],l[k],by simp [h1],by simp [h2],h5⟩
 ·exact .inr ⟨l[k],l[i],by simp [h2],by simp [h1],Hr.1 h5⟩
end Go.Sh
namespace Go.Sh
open Go.L
def sat (l:List bE) (i:Int):bE:=l.getD i.toNat default
def cat (cl:List Int) (i:Int):Int:=cl.getD i.toNat 0
def qM (l:List bE) (i:Int):Prop:=0≤i∧z8 l i.toNat
theorem vp {l:List bE} {i:Int} (h:qM l i):i.toNat<l.length:=by
 obtain ⟨_,x,h1,_⟩:=h; exact (List.getElem?_eq_some_iff.1 h1).1
theorem oP {l:List bE} {i:Int} (h:qM l i):idx l i=some (sat l i):=by
 have:=vp h
 rw [kl]; exact ⟨h.1,by simp [sat,this]⟩
theorem BQ {l:List bE} {cl:List Int} {i:Int} (h:qM l i) (hl:l.length=cl.length):idx cl i=some (cat cl i):=by
 have:=vp h
 have:i.toNat<cl.length:=by omega
 rw [kl]; exact ⟨h.1,by simp [cat,this]⟩
theorem kV {l:List bE} {i:Int} (h:qM l i):l[i.toNat]?=some (sat l i):=by
 have:=vp h; simp [sat,this]
theorem BP {l:List bE} {cl:List Int} {i:Int} (h:qM l i) (hl:l.length=cl.length):cl[i.toNat]?=some (cat cl i):=by
 have:=vp h
 have:i.toNat<cl.length:=by omega
 simp [cat,this]
def diff (l:List bE) (cl:List Int) (i k:Int):Prop:=sat l i ≠ sat l k ∨ cat cl i ≠ cat cl k
def pY (l:List bE) (i j:Int):Int:=if eh (sat l i) (sat l j) ≠ 0 then eh (sat l i) (sat l j) else nv i j
theorem lH {l:List bE} {i j:Int}:pY l i j<0 ↔ ((sat l i).Source<(sat l j).Source ∨ (sat l i).Source=(sat l j).Source∧((sat l i).Seq<(sat l j).Seq ∨ (sat l i).Seq=(sat l j).Seq∧i<j)):=by
 have h1:=@fM (sat l i) (sat l j)
 have h2:=@eo (sat l i) (sat l j)
 have h3:=@pZ i j
 unfold pY; split <;> omega
theorem FH {F:Nat} (hF:10≤F) {l:List bE} {i j:Int} (hi:qM l i) (hj:qM l j):xo F i j l=some (pY l i j):=by
 simp only [xo,oP hi,oP hj,rJ hF,ou,Option.bind_some]
 rw [QO (by simp) (by simp; omega)]
 simp only [Option.bind_some,M7,pY]
 repeat' split
 all_goals simp_all
structure j7 (l:List bE) (cl:List Int) (T:List Int) (gs:List fG):Prop where
 first:∀ g ∈ gs,g.first ∈ T
 each:∀ t ∈ T,∃ g ∈ gs,eh (sat l g.first) (sat l t)=0∧g.first≤t
 Og:∀ g ∈ gs,(g.eI=true ↔ ∃ t ∈ T,eh (sat l g.first) (sat l t)=0∧diff l cl g.first t)
 Hm:gs.Pairwise fun g h=>eh (sat l g.first) (sat l h.first)<0
 len:gs.length≤T.length
 last:∀ g,gs.getLast?=some g→∀ t ∈ T,¬ eh (sat l g.first) (sat l t)<0
theorem j7.new {l:List bE} {cl:List Int} {T:List Int} {gs:List fG} {x:Int} (h:j7 l cl T gs) (hx:∀ t ∈ T,pY l t x<0) (hn:∀ g,gs.getLast?=some g→eh (sat l g.first) (sat l x) ≠ 0):j7 l cl (T++[x]) (gs++[⟨x,false⟩]):=by
 have hlt:∀ g ∈ gs,eh (sat l g.first) (sat l x)<0:=by
  intro g hg
  rcases List.eq_nil_or_concat gs with rfl | ⟨BR,g',rfl⟩
  ·simp at hg
  ·rw [List.concat_eq_append] at *
   have h1:eh (sat l g'.first) (sat l x)<0:=by
    have a1:=hn g' (by simp)
    have a2:=hx g'.first (h.first g' (by simp))
    rw [lH] at a2; rw [fM]; have:=mt (@eo (sat l g'.first) (sat l x)).2 a1; omega
   rcases List.mem_append.1 hg with hg | hg
   ·have:=(List.pairwise_append.1 h.Hm).2.2 g hg g' (by simp)
    rw [fM] at *; omega
   ·simp at hg; subst hg; exact h1
 have SS:∀ t ∈ T,eh (sat l t) (sat l x)<0:=by
  intro t ht
  obtain ⟨g,hg,h1,_⟩:=h.each t ht
  have h2:=hlt g hg
  rw [eo] at h1; rw [fM] at *; omega
 constructor
 ·intro g hg
  rcases List.mem_append.1 hg with hg | hg
  ·simp [h.first g hg]
  ·simp at hg; subst hg; simp
 ·intro t ht
  rcases List.mem_append.1 ht with ht | ht
  ·obtain ⟨g,hg,h1⟩:=h.each t ht; exact ⟨g,by simp [hg],h1⟩
  ·simp at ht; subst ht; exact ⟨⟨t,false⟩,by simp,by simp [eo],Int.le_refl _⟩
 ·intro g yh
  rcases List.mem_append.1 yh with hg | hg
  ·rw [h.Og g hg]
   constructor
   ·rintro ⟨t,ht,h1⟩; exact ⟨t,by simp [ht],h1⟩
   ·rintro ⟨t,ht,h1⟩
    have:=hlt g hg
    rcases List.mem_append.1 ht with ht | ht
    ·exact ⟨t,ht,h1⟩
    ·simp at ht; rw [ht] at h1; omega
  ·simp at hg; subst hg
   simp only [Bool.false_eq_true,false_iff]
   rintro ⟨t,ht,h1,h2⟩
   rcases List.mem_append.1 ht with ht | ht
   ·have:=SS t ht; rw [eo] at h1; rw [fM] at this; omega
   ·simp at ht; subst ht; rcases h2 with h2 | h2 <;> exact h2 rfl
 ·rw [List.pairwise_append]; exact ⟨h.Hm,by simp,fun g hg g' vO=>by simp at vO; subst vO; exact hlt g hg⟩
 ·simp; exact h.len
 ·intro g hg t ht
  simp at hg; subst hg
  show ¬ eh (sat l x) (sat l t)<0
  rcases List.mem_append.1 ht with ht | ht
  ·have:=SS t ht; rw [fM] at *; omega
  ·simp at ht; subst ht; rw [fM]; omega
theorem j7.Yk {l:List bE} {cl:List Int} {T:List Int} {gs:List fG} {g:fG} {x:Int} {b:Bool} (h:j7 l cl T (gs++[g])) (hx:∀ t ∈ T,pY l t x<0) (he:eh (sat l g.first) (sat l x)=0) (hb:b=true ↔ g.eI=true ∨ diff l cl g.first x):j7 l cl (T++[x]) (gs++[⟨g.first,b⟩]):=by
 have WO:g.first≤x:=by
  have:=hx g.first (h.first g (by simp))
  rw [lH] at this; rw [eo] at he; omega
 have hlt:∀ k ∈ gs,eh (sat l k.first) (sat l x)<0:=fun k hk=>by
  have:=(List.pairwise_append.1 h.Hm).2.2 k hk g (by simp)
  rw [eo] at he; rw [fM] at *; omega
 constructor
 ·intro k hk
  rcases List.mem_append.1 hk with hk | hk
  ·simp [h.first k (by simp [hk])]
  ·simp at hk; subst hk; simp [h.first g (by simp)]
 ·intro t ht
  rcases List.mem_append.1 ht with ht | ht
  ·obtain ⟨k,hk,h1⟩:=h.each t ht
   rcases List.mem_append.1 hk with hk | hk
   ·exact ⟨k,by simp [hk],h1⟩
   ·simp at hk; subst hk; exact ⟨⟨k.first,b⟩,by simp,h1⟩
  ·simp at ht; subst ht; exact ⟨⟨g.first,b⟩,by simp,he,WO⟩
 ·intro k hk
  rcases List.mem_append.1 hk with hk | hk
  ·rw [h.Og k (by simp [hk])]
   constructor
   ·rintro ⟨t,ht,h1⟩; exact ⟨t,by simp [ht],h1⟩
   ·rintro ⟨t,ht,h1⟩
    rcases List.mem_append.1 ht with ht | ht
    ·exact ⟨t,ht,h1⟩
    ·simp at ht; subst ht; have:=hlt k hk; omega
  ·simp at hk; subst hk
   show b=true ↔ _
   rw [hb,h.Og g (by simp)]
   constructor
   ·rintro (⟨t,ht,h1⟩ | h1)
    ·exact ⟨t,by simp [ht],h1⟩
    ·exact ⟨x,by simp,he,h1⟩
   ·rintro ⟨t,ht,h1,h2⟩
    rcases List.mem_append.1 ht with ht | ht
    ·exact .inl ⟨t,ht,h1,h2⟩
    ·simp at ht; subst ht; exact .inr h2
 ·have:=h.Hm
  rw [List.pairwise_append] at this ⊢
  exact ⟨this.1,by simp,fun k hk g' vO=>by simp at vO; subst vO; exact this.2.2 k hk g (by simp)⟩
 ·have:=h.len; simp at this ⊢; omega
 ·intro k hk t ht
  simp at hk; subst hk
  rcases List.mem_append.1 ht with ht | ht
  ·exact h.last g (by simp) t ht
  ·simp at ht; subst ht; show ¬ eh (sat l g.first) _<0; omega
theorem zt {F:Nat} (hF:10≤F) {l:List bE} {cl:List Int} (hl:l.length=cl.length) (hb:l.length<1000000) {S:List Int} (hS:S.Pairwise fun a b=>pY l a b<0) (hv:∀ i ∈ S,qM l i) (Ws:S.length≤l.length) :
  ∀ n (k:Int) (gs:List fG),(∃ T U,S=T++U∧k=(T.length:Int)∧j7 l cl T gs)→(S.length - k.toNat)<n→∃ r,xm F l cl S n k gs=some r∧j7 l cl S r:=by
 refine I1 (L:=xm F l cl S) (B:=AV F l cl S) (fun _=>rfl) _ (fun (k:Int) (_:List fG)=>S.length - k.toNat) _ ?_
 rintro rec k gs ⟨T,U,KN,rfl,hG⟩ CL
 unfold AV
 cases U with
 | nil =>
  have d1:decide ((T.length:Int)<(S.length:Int))=false:=by subst KN; simp
  simp only [d1,Bool.false_eq_true,if_false]
  refine ⟨gs,rfl,?_⟩
  subst KN; simpa using hG
 | cons x U =>
  have d1:decide ((T.length:Int)<(S.length:Int))=true:=by subst KN; exact Ro T x U
  have GV:idx S (T.length:Int)=some x:=by subst KN; exact nV T x U
  have hTl:T.length<1000000:=by have:=congrArg List.length KN; simp at this; omega
  have hx:∀ t ∈ T,pY l t x<0:=fun t ht=>by
   rw [KN] at hS; exact (List.pairwise_append.1 hS).2.2 t ht x (by simp)
  have vx:qM l x:=hv x (by rw [KN]; simp)
  have MI:∀ BR,j7 l cl (T++[x]) BR→∃ r,rec (i64 ((T.length:Int)+1)) BR=some r∧j7 l cl S r:=fun BR vO=>by
   rw [VU T x (by omega)]
   refine CL _ _ ⟨T++[x],U,by simp [KN],rfl,vO⟩ ?_
   have:=congrArg List.length KN
   simp at this ⊢; omega
  simp only [d1,if_true,GV,Option.bind_some]
  have Su:gs.length≤T.length:=hG.len
  rcases List.eq_nil_or_concat gs with rfl | ⟨BR,g,rfl⟩
  ·have:decide (i64 ((([]:List fG).length:Int) - 1)<0)=true:=by rw [cL (by simp) (by simp)]; simp
   simp only [this,if_true,Option.bind_some]
   rw [fh (by simp)]
   exact MI _ (hG.new hx (by simp))
  ·rw [List.concat_eq_append] at *
   simp only [List.length_append,List.length_singleton] at Su
   have hw:i64 (((BR++[g]).length:Int) - 1)=(BR.length:Int):=by
    simp only [List.length_append,List.length_singleton]
    rw [cL (by omega) (by omega)]; omega
   have WO:idx (BR++[g]) (BR.length:Int)=some g:=nV BR g []
   have OU:decide ((BR.length:Int)<0)=false:=by simp
   have vg:qM l g.first:=hv _ (by rw [KN]; simp [hG.first g (by simp)])
   have Lj:app (BR++[g]) [fG.mk x false]=some (BR++[g]++[fG.mk x false]):=fh (by simp; omega)
   simp only [hw,OU,WO,oP vg,oP vx,BQ vg hl,BQ vx hl,rJ hF,Bool.false_eq_true,if_false,Option.bind_some,bne_iff_ne,ne_eq,Lj]
   by_cases he:eh (sat l g.first) (sat l x)=0
   ·simp only [he,not_true_eq_false,if_false,Bool.not_eq_eq_eq_not,Bool.not_true,decide_eq_false_iff_not]
    have jd:(BR++[g]).set ((BR.length:Int)).toNat (fG.mk g.first true)=BR++[fG.mk g.first true]:=by simp
    by_cases hd:sat l g.first=sat l x
    ·simp only [hd,not_true_eq_false,if_false,Option.bind_some,bne_iff_ne,ne_eq]
     by_cases hc:cat cl g.first=cat cl x
     ·simp only [hc,not_true_eq_false,if_false]
      have:=hG.Yk (b:=g.eI) hx he ⟨.inl,fun h=>h.elim id fun h=>(h.elim (fun h=>absurd hd h) fun h=>absurd hc h)⟩
      exact MI _ this
     ·simp only [hc,not_false_eq_true,if_true,jd]
      exact MI _ (hG.Yk (b:=true) hx he ⟨fun _=>.inr (.inr hc),fun _=>rfl⟩)
    ·simp only [hd,not_false_eq_true,if_true,Option.bind_some,jd]
     exact MI _ (hG.Yk (b:=true) hx he ⟨fun _=>.inr (.inl hd),fun _=>rfl⟩)
   ·simp only [he,not_false_eq_true,if_true]
    exact MI _ (hG.new hx (by simpa using he))
theorem yd {F:Nat} (hF:10≤F) {l:List bE} {cl:List Int} (hl:l.length=cl.length) (hb:l.length<1000000) (MD:l.length<F) :
  ∀ n (k:Int) (acc:List Int),(∃ j:Nat,k=j∧j≤l.length∧acc.length≤j∧acc.Pairwise (·<·)∧∀ i,i ∈ acc ↔ qM l i∧i<j)→(l.length - k.toNat)<n →
   ∃ r,xl F l cl n k acc=some r∧∃ S,(∀ i,i ∈ S ↔ qM l i)∧S.length≤l.length∧j7 l cl S r:=by
 refine I1 (L:=xl F l cl) (B:=AU F l cl) (fun _=>rfl) _ (fun (k:Int) (_:List Int)=>l.length - k.toNat) _ ?_
 rintro rec k acc ⟨j,rfl,hj,hlen,hs,hm⟩ CL
 unfold AU
 by_cases hlt:j<l.length
 ·have d1:decide ((j:Int)<(l.length:Int))=true:=by simp; exact hlt
  have zG:i64 ((j:Int)+1)=((j+1:Nat):Int):=by rw [cL (by omega) (by omega)]; rfl
  simp only [d1,if_true,kj hlt,Mo,Option.bind_some]
  by_cases hg:l[j].pk=true
  ·simp only [hg,if_true]
   rw [fh (by simp; omega)]
   simp only [Option.bind_some,zG]
   refine CL _ _ ⟨j+1,rfl,by omega,by simp; omega,?_,fun i=>?_⟩ (by simp; omega)
   ·rw [List.pairwise_append]; exact ⟨hs,by simp,fun a ha b hb=>by simp at hb; subst hb; exact ((hm a).1 ha).2⟩
   ·simp only [List.mem_append,List.mem_singleton,hm]
    constructor
    ·rintro (⟨h1,h2⟩ | rfl)
     ·exact ⟨h1,by omega⟩
     ·exact ⟨⟨by omega,by simpa using (En hlt).2 hg⟩,by omega⟩
    ·rintro ⟨h1,h2⟩
     by_cases h:i=(j:Int)
     ·exact .inr h
     ·exact .inl ⟨h1,by omega⟩
  ·simp only [bF hg,Bool.false_eq_true,if_false,zG]
   refine CL _ _ ⟨j+1,rfl,by omega,by omega,hs,fun i=>?_⟩ (by simp; omega)
   rw [hm]
   constructor
   ·rintro ⟨h1,h2⟩; exact ⟨h1,by omega⟩
   ·rintro ⟨h1,h2⟩
    refine ⟨h1,?_⟩
    by_cases h:i=(j:Int)
    ·subst h; exact absurd ((En hlt).1 (by simpa using h1.2)) hg
    ·omega
 ·have d1:decide ((j:Int)<(l.length:Int))=false:=by simp; omega
  simp only [d1,Bool.false_eq_true,if_false]
  have hv:∀ i,i ∈ acc ↔ qM l i:=fun i=>by
   rw [hm]
   constructor
   ·exact fun h=>h.1
   ·intro h; refine ⟨h,?_⟩; have:=vp h; have:=h.1; omega
  obtain ⟨S,h1,h2,h3⟩:=Bz (c:=fun a0 a1=>xo F a0 a1 l) (xs:=acc) (pY l) (by omega) (fun x hx y hy=>FH hF ((hv x).1 hx) ((hv y).1 hy)) (fun x _=>by rw [lH]; omega)
   (fun x _ y _ z _ a b=>by rw [lH] at *; omega) (fun x _ y _ z _ a b=>by rw [lH] at *; omega) (hs.imp fun {a b} h=>by simp only [lH]; omega)
  simp only [h1,Option.bind_some]
  have Y9:∀ i,i ∈ S ↔ qM l i:=fun i=>by rw [h2.mem_iff,hv]
  have Ws:S.length≤l.length:=by rw [h2.length_eq]; omega
  obtain ⟨r,h4,h5⟩:=zt hF hl hb h3 (fun i hi=>(Y9 i).1 hi) Ws F 0 [] ⟨[],S,rfl,rfl,⟨by simp,by simp,by simp,by simp,by simp,by simp⟩⟩ (by simp; omega)
  exact ⟨r,h4,S,Y9,Ws,h5⟩
structure qP (l:List bE) (cl:List Int) (gs:List fG):Prop where
 first:∀ g ∈ gs,qM l g.first
 each:∀ t,qM l t→∃ g ∈ gs,eh (sat l g.first) (sat l t)=0∧g.first≤t
 Og:∀ g ∈ gs,(g.eI=true ↔ ∃ t,qM l t∧eh (sat l g.first) (sat l t)=0∧diff l cl g.first t)
 Hm:gs.Pairwise fun g h=>eh (sat l g.first) (sat l h.first)<0
 len:gs.length≤l.length
theorem HH {F:Nat} (hF:10≤F) {l:List bE} {cl:List Int} (hl:l.length=cl.length) (hb:l.length<1000000) (MD:l.length<F):∃ gs,ER F l cl=some gs∧qP l cl gs:=by
 obtain ⟨r,h1,S,h2,h3,h4⟩:=yd hF hl hb MD F 0 [] ⟨0,rfl,by omega,by simp,by simp,fun i=>by simp [qM]; omega⟩ (by simpa using MD)
 refine ⟨r,h1,fun g hg=>(h2 _).1 (h4.first g hg),fun t ht=>h4.each t ((h2 t).2 ht),fun g hg=>?_,h4.Hm,Nat.le_trans h4.len h3⟩
 rw [h4.Og g hg]
 simp only [h2]
end Go.Sh
namespace Go.Sh
open Go.L
theorem Cl {l:List bE} {cl:List Int} {gs:List fG} (hl:l.length=cl.length) (hG:qP l cl gs) (i:Int):(0≤i∧counts l cl i.toNat) ↔ ∃ g ∈ gs,g.eI=false∧g.first=i:=by
 have ME:∀ a b:Int,qM l a→qM l b→(Hu l cl a.toNat b.toNat ↔ eh (sat l a) (sat l b)=0∧((sat l a).Time ≠ (sat l b).Time ∨ cat cl a ≠ cat cl b)):=fun a b ha hb=>by
  unfold Hu Q4
  rw [eo,kV ha,kV hb,BP ha hl,BP hb hl]
  simp only [Option.some.injEq]
  constructor
  ·rintro ⟨x,y,c,d,rfl,rfl,rfl,rfl,h⟩; exact h
  ·intro h; exact ⟨_,_,_,_,rfl,rfl,rfl,rfl,h⟩
 have heq:∀ x y:bE,eh x y=0→(x=y ↔ x.Time=y.Time):=fun x y h=>by
  rw [eo] at h
  cases x; cases y; simp at h ⊢; simp [h]
 constructor
 ·rintro ⟨h0,hc⟩
  have hv:qM l i:=⟨h0,hc.1⟩
  obtain ⟨g,hg,h1,h2⟩:=hG.each i hv
  have vg:=hG.first g hg
  have hnd:∀ t,qM l t→¬ (eh (sat l i) (sat l t)=0∧((sat l i).Time ≠ (sat l t).Time ∨ cat cl i ≠ cat cl t)):=fun t ht h=>(hc.2 t.toNat ht.2).1 ((ME i t hv ht).2 h)
  have h1':eh (sat l i) (sat l g.first)=0:=by rw [eo] at *; omega
  have Zm:g.first=i:=by
   by_cases hlt:g.first<i
   ·have a1:=hnd _ vg
    have a2:sat l g.first=sat l i:=(heq _ _ h1).2 (Decidable.byContradiction fun eE=>a1 ⟨h1',.inl fun h=>eE h.symm⟩)
    have a3:=(hc.2 g.first.toNat vg.2).2 (by have:=vg.1; omega)
    rw [kV vg,kV hv,a2] at a3
    exact absurd rfl a3
   ·omega
  refine ⟨g,hg,?_,Zm⟩
  cases hd:g.eI with
  | false=>rfl
  | true =>
   obtain ⟨t,ht,b1,b2⟩:=(hG.Og g hg).1 hd
   rw [Zm] at b1 b2
   refine absurd ?_ (hnd t ht)
   refine ⟨b1,?_⟩
   rcases b2 with b2 | b2
   ·exact .inl fun h=>b2 ((heq _ _ b1).2 h)
   ·exact .inr b2
 ·rintro ⟨g,hg,hd,rfl⟩
  have vg:=hG.first g hg
  refine ⟨vg.1,vg.2,fun k hk=>?_⟩
  have vk:qM l (k:Int):=⟨by omega,by simpa using hk⟩
  constructor
  ·intro h
   have h':=(ME g.first k vg vk).1 (by simpa using h)
   have:g.eI=true:=(hG.Og g hg).2 ⟨k,vk,h'.1,by
    rcases h'.2 with h | h
    ·exact .inl fun he=>h (by rw [he])
    ·exact .inr h⟩
   rw [hd] at this; cases this
  ·intro hlt he
   have Cw:sat l k=sat l g.first:=by
    have:=kV vk
    simp only [Int.toNat_natCast] at this
    rw [this,kV vg] at he; exact Option.some.inj he
   obtain ⟨g',vO,h1,h2⟩:=hG.each k vk
   have hgg:eh (sat l g'.first) (sat l g.first)=0:=by rw [← Cw]; exact h1
   have:g'=g:=by
    by_cases h:g'=g
    ·exact h
    ·have ha:=hG.Hm
     have:eh (sat l g'.first) (sat l g.first)<0 ∨ eh (sat l g.first) (sat l g'.first)<0:=by
      obtain ⟨a,VD⟩:=List.mem_iff_getElem.1 vO
      obtain ⟨b,iG⟩:=List.mem_iff_getElem.1 hg
      rw [List.pairwise_iff_getElem] at ha
      obtain ⟨la,rfl⟩:=VD
      obtain ⟨lb,rfl⟩:=iG
      rcases Nat.lt_trichotomy a b with h3 | h3 | h3
      ·exact .inl (ha a b la lb h3)
      ·subst h3; exact absurd rfl h
      ·exact .inr (ha b a lb la h3)
     rw [eo] at hgg; rw [fM,fM] at this; omega
   subst this
   have:=vg.1; omega
theorem Ho {F:Nat} (hF:10≤F) {l:List bE} {i j:Int} (hi:qM l i) (hj:qM l j):xf F i j l=some (jv (sat l i) (sat l j)):=by
 simp only [xf,oP hi,oP hj,uX hF,Option.bind_some]
def iF (gs:List fG):List Int:=(gs.filter fun g=>!g.eI).map (·.first)
theorem Cp (gs:List fG):(iF gs).length≤gs.length:=by
 unfold iF; rw [List.length_map]; exact List.length_filter_le _ _
theorem tv {F:Nat} (hF:10≤F) {l:List bE} {cl:List Int} (hl:l.length=cl.length) (hb:l.length<1000000) {gs:List fG} (hG:qP l cl gs) :
  ∀ n (k:Int) (acc:List Int),(∃ p s,gs=p++s∧k=(p.length:Int)∧acc=iF p)→(gs.length - k.toNat)<n→∃ r,xb F l gs n k acc=some r∧Canon l cl r:=by
 refine I1 (L:=xb F l gs) (B:=Aq F l gs) (fun _=>rfl) _ (fun (k:Int) (_:List Int)=>gs.length - k.toNat) _ ?_
 rintro rec k acc ⟨p,s,zI,rfl,rfl⟩ CL
 unfold Aq
 have Su:=hG.len
 have vQ:p.length≤gs.length:=by rw [zI]; simp
 have FN:=Cp p
 cases s with
 | cons g s =>
  have d1:decide ((p.length:Int)<(gs.length:Int))=true:=by rw [zI]; exact Ro p g s
  have GV:idx gs (p.length:Int)=some g:=by rw [zI]; exact nV p g s
  have hm:gs.length - ((p++[g]).length:Int).toNat<gs.length - (p.length:Int).toNat:=by
   have:=congrArg List.length zI; simp at this ⊢; omega
  simp only [d1,if_true,GV,Option.bind_some,VU p g (by omega)]
  cases hd:g.eI with
  | false =>
   simp only [Bool.not_false,if_true]
   rw [fh (by simp; omega)]
   exact CL _ _ ⟨p++[g],s,by simp [zI],rfl,by simp [iF,hd]⟩ hm
  | true =>
   simp only [Bool.not_true,Bool.false_eq_true,if_false]
   exact CL _ _ ⟨p++[g],s,by simp [zI],rfl,by simp [iF,hd]⟩ hm
 | nil =>
  have hpg:gs=p:=by simpa using zI
  subst hpg
  have d1:decide ((gs.length:Int)<(gs.length:Int))=false:=by simp
  simp only [d1,Bool.false_eq_true,if_false]
  have fw:∀ i,i ∈ iF gs ↔ 0≤i∧counts l cl i.toNat:=fun i=>by
   rw [Cl hl hG]
   simp only [iF,List.mem_map,List.mem_filter,Bool.not_eq_eq_eq_not,Bool.not_true]
   constructor
   ·rintro ⟨g,⟨h1,h2⟩,h3⟩; exact ⟨g,h1,h2,h3⟩
   ·rintro ⟨g,h1,h2,h3⟩; exact ⟨g,⟨h1,h2⟩,h3⟩
  have zK:∀ i ∈ iF gs,qM l i:=fun i hi=>by have:=(fw i).1 hi; exact ⟨this.1,this.2.1⟩
  have hnd:(iF gs).Pairwise fun a b=>a ≠ b:=by
   unfold iF
   rw [List.pairwise_map]
   refine (hG.Hm.filter _).imp fun {a b} h he=>?_
   rw [he,fM] at h; omega
  have hlt:∀ i j,qM l i→qM l j→(jv (sat l i) (sat l j)<0 ↔ uj l i j):=fun i j hi hj=>by
   unfold uj; rw [kV hi,kV hj]
   constructor
   ·intro h; exact ⟨_,_,rfl,rfl,h⟩
   ·rintro ⟨x,y,h1,h2,h3⟩; cases h1; cases h2; exact h3
  obtain ⟨a,h1,h2,h3⟩:=Bz (c:=fun a0 a1=>xf F a0 a1 l) (xs:=iF gs) (fun i j=>jv (sat l i) (sat l j)) (by omega) (fun x hx y hy=>Ho hF (zK x hx) (zK y hy)) (fun x _=>by rw [jw]; omega)
   (fun x _ y _ z _ p q=>by rw [jw] at *; omega) (fun x _ y _ z _ p q=>by rw [jw] at *; omega) (List.Pairwise.imp_of_mem (fun {x y} hx hy eE=>by
    have cx:=(fw x).1 hx
    have cy:=(fw y).1 hy
    have:=tB cx.2 cy.2 (fun h=>eE (by omega))
    rw [Int.toNat_of_nonneg cx.1,Int.toNat_of_nonneg cy.1,← hlt x y (zK x hx) (zK y hy),← hlt y x (zK y hy) (zK x hx)] at this
    exact this) hnd)
  have Sj:lZ l cl a:=⟨List.Pairwise.imp_of_mem (fun {x y} hx hy h=>(hlt x y (zK x (h2.mem_iff.1 hx)) (zK y (h2.mem_iff.1 hy))).1 h) h3,fun i=>by rw [h2.mem_iff]; exact fw i⟩
  have hlen:(iF gs).length=a.length:=h2.length_eq.symm
  by_cases R8:300<a.length
  ·have:decide (((iF gs).length:Int) > 300)=true:=by simp; omega
   simp only [this,if_true]
   refine ⟨_,rfl,?_⟩
   unfold Canon; rw [if_neg (by omega)]
   exact ⟨a,Sj,by rw [if_pos R8]⟩
  ·have:decide (((iF gs).length:Int) > 300)=false:=by simp; omega
   simp only [this,Bool.false_eq_true,if_false,h1,Option.bind_some]
   refine ⟨_,rfl,?_⟩
   unfold Canon; rw [if_neg (by omega)]
   exact ⟨a,Sj,by rw [if_neg R8]⟩
theorem zj {F:Nat} (hF:10≤F) {l:List bE} {cl:List Int} (hb:l.length<1000000) (MD:l.length<F):∃ r,xk F l cl=some r∧Canon l cl r:=by
 unfold xk
 by_cases hl:l.length=cl.length
 ·have:((l.length:Int) != (cl.length:Int))=false:=by simp; omega
  simp only [this,Bool.false_eq_true,if_false]
  obtain ⟨gs,h1,h2⟩:=HH hF hl hb MD
  simp only [h1,Option.bind_some]
  have:=h2.len
  exact tv hF hl hb h2 F 0 [] ⟨[],gs,rfl,rfl,rfl⟩ (by simp; omega)
 ·have:((l.length:Int) != (cl.length:Int))=true:=by simp; omega
  simp only [this,if_true]
  exact ⟨_,rfl,by unfold Canon; rw [if_pos hl]⟩
end Go.Sh
namespace Go.Sh
open Go.L
def okB (l:List bE) (i:Nat):Bool:=match l[i]? with | some x=>x.pk | .none=>false
theorem yx {l:List bE} {i:Nat}:okB l i=true ↔ z8 l i:=by
 unfold okB z8; cases l[i]? <;> simp
def D2 (l:List bE) (cl:List Int) (i k:Nat):Bool:=match l[i]?,l[k]?,cl[i]?,cl[k]? with
 | some x,some y,some c,some d=>decide (x.Source=y.Source) && decide (x.Seq=y.Seq) && (decide (x.Time ≠ y.Time) || decide (c ≠ d))
 | _,_,_,_=>false
theorem wv {l:List bE} {cl:List Int} {i k:Nat}:D2 l cl i k=true ↔ Hu l cl i k:=by
 unfold D2 Hu Q4
 cases l[i]? with
 | none=>simp
 | some x=>cases l[k]? with
  | none=>simp
  | some y=>cases cl[i]? with
   | none=>simp
   | some c=>cases cl[k]? with
    | none=>simp
    | some d=>simp [and_assoc]
def ov (l:List bE) (cl:List Int) (i:Nat):Bool:=okB l i && (List.range l.length).all fun k=>!okB l k || (!D2 l cl i k && (!decide (k<i) || decide (l[k]? ≠ l[i]?)))
theorem rK {l:List bE} {cl:List Int} {i:Nat}:ov l cl i=true ↔ counts l cl i:=by
 unfold ov counts
 simp only [Bool.and_eq_true,yx,List.all_eq_true,List.mem_range,Bool.or_eq_true,Bool.not_eq_true',decide_eq_true_eq,decide_eq_false_iff_not]
 constructor
 ·rintro ⟨h1,h2⟩
  refine ⟨h1,fun k hk=>?_⟩
  have BU:k<l.length:=by
   by_cases h:k<l.length
   ·exact h
   ·exact absurd hk (LS (by omega))
  rcases h2 k BU with h | ⟨h3,h4⟩
  ·have:=yx.2 hk; rw [h] at this; cases this
  ·refine ⟨fun h=>?_,fun h=>h4.resolve_left (by omega)⟩
   have:=wv.2 h; rw [h3] at this; cases this
 ·rintro ⟨h1,h2⟩
  refine ⟨h1,fun k hk=>?_⟩
  cases gP:okB l k with
  | false=>exact .inl rfl
  | true =>
   right
   have:=h2 k (yx.1 gP)
   refine ⟨?_,?_⟩
   ·cases hd:D2 l cl i k with
    | false=>rfl
    | true=>exact absurd (wv.1 hd) this.1
   ·by_cases h:k<i
    ·exact .inr (this.2 h)
    ·exact .inl h
def VS (l:List bE) (a b:Int):Bool:=match l[a.toNat]?,l[b.toNat]? with
 | some x,some y=>decide (jv x y<0)
 | _,_=>false
theorem sZ {l:List bE} {a b:Int}:VS l a b=true ↔ uj l a b:=by
 unfold VS uj
 cases l[a.toNat]? with
 | none=>simp
 | some x=>cases l[b.toNat]? with
  | none=>simp
  | some y=>simp
def jF (l:List bE) (cl:List Int):List Int:=qk (VS l) (((List.range l.length).filter (ov l cl)).map Int.ofNat)
theorem ot (l:List bE) (cl:List Int):lZ l cl (jF l cl):=by
 have fw:∀ i,i ∈ ((List.range l.length).filter (ov l cl)).map Int.ofNat ↔ 0≤i∧counts l cl i.toNat:=fun i=>by
  simp only [List.mem_map,List.mem_filter,List.mem_range,rK]
  constructor
  ·rintro ⟨k,⟨h1,h2⟩,rfl⟩; exact ⟨by simp,by simpa using h2⟩
  ·rintro ⟨h1,h2⟩; exact ⟨i.toNat,⟨lJ h2,h2⟩,by simp; omega⟩
 constructor
 ·have:=mw (lt:=VS l) (l:=((List.range l.length).filter (ov l cl)).map Int.ofNat) (fun a _ b _ c _ h1 h2=>by rw [sZ] at *; exact uk l a b c h1 h2) (by
   rw [List.pairwise_map]
   refine List.Pairwise.imp_of_mem (fun {a b} ha hb nf=>?_) ((List.pairwise_lt_range (n:=l.length)).filter _)
   rw [sZ,sZ]
   simp only [List.mem_filter,rK] at ha hb
   exact tB ha.2 hb.2 (by omega))
  exact this.imp fun h=>sZ.1 h
 ·intro i
  rw [jF,ij.mem_iff]; exact fw i
def qV (l:List bE) (cl:List Int):List Int × Int:=if l.length ≠ cl.length then ([],1) else if 300<(jF l cl).length then ([],3) else (jF l cl,0)
theorem Ft (l:List bE) (cl:List Int):Canon l cl (qV l cl):=by
 unfold Canon qV
 split
 ·rfl
 ·exact ⟨jF l cl,ot l cl,rfl⟩
theorem zi {F:Nat} (hF:10≤F) {l:List bE} {cl:List Int} (hb:l.length<1000000) (MD:l.length<F):xk F l cl=some (qV l cl):=by
 obtain ⟨r,h1,h2⟩:=zj hF (cl:=cl) hb MD
 rw [h1,h2.unique (Ft l cl)]
structure Tp (t:aU):Prop where
 len:t.L.length≤600
 lo:0≤t.At
 hi:t.At≤600
theorem TR (l:List Int):∃ t,lQ l=some t∧Tp t:=by
 unfold lQ
 by_cases h:(l.length:Int) > 600
 ·simp only [h,decide_true,if_true]
  rw [show (600:Int)=((600:Nat):Int) from rfl,Kl (by omega)]
  exact ⟨_,rfl,⟨by simp; omega,by simp,by simp⟩⟩
 ·simp only [h,decide_false,Bool.false_eq_true,if_false]
  exact ⟨_,rfl,⟨by simp; omega,by simp,by simp⟩⟩
theorem U6 {t:aU} (h:Tp t):∃ x t',Hg t=some (x,t')∧Tp t':=by
 have h1:=h.len; have h2:=h.lo; have h3:=h.hi
 unfold Hg
 by_cases hc:t.At ≥ (t.L.length:Int)
 ·simp only [hc,decide_true,if_true]; exact ⟨_,_,rfl,h⟩
 ·simp only [hc,decide_false,Bool.false_eq_true,if_false]
  rw [cL (n:=t.At+1) (by omega) (by omega),cL (by omega) (by omega)]
  have hx:idx t.L (t.At+1 - 1)=some t.L[t.At.toNat]:=by
   rw [kl,show t.At+1 - 1=t.At by omega]
   exact ⟨h2,by simp⟩
  rw [hx]
  exact ⟨_,_,rfl,⟨h1,by simp; omega,by simp; omega⟩⟩
theorem MA (x n:Int) (hn:n≤1000000000):∃ r,lP x n=some r∧0≤r∧(1≤n→r<n)∧(n<1→r=0):=by
 unfold lP
 by_cases h:n<1
 ·simp only [h,decide_true,if_true]; exact ⟨0,rfl,by omega,by omega,by omega⟩
 ·simp only [h,decide_false,Bool.false_eq_true,if_false]
  have hr:QX x n=some (x.tmod n):=by unfold QX; rw [if_neg (by omega)]
  simp only [hr,Option.bind_some]
  have b1:x.tmod n<n:=Int.tmod_lt_of_pos x (by omega)
  have b2:-n<x.tmod n:=by
   have:=Int.lt_tmod_of_pos x (show 0<n by omega)
   omega
  by_cases h0:x.tmod n<0
  ·simp only [h0,decide_true,if_true]
   rw [cL (by omega) (by omega)]
   exact ⟨_,rfl,by omega,fun _=>by omega,fun hh=>hh.elim⟩
  ·simp only [h0,decide_false,Bool.false_eq_true,if_false]
   exact ⟨_,rfl,by omega,fun _=>by omega,fun hh=>hh.elim⟩
theorem yu {t:aU} (h:Tp t) (n:Int) (hn:n≤1000000000):∃ x t',jD t n=some (x,t')∧Tp t'∧0≤x∧(1≤n→x<n)∧(n<1→x=0):=by
 obtain ⟨x,t',h1,h2⟩:=U6 h
 obtain ⟨r,h3,h4⟩:=MA x n hn
 exact ⟨r,t',by simp [jD,h1,h3],h2,h4⟩
theorem L6 {t:aU} (h:Tp t) (a b:Int) (ha:-1000≤a) (nf:a≤b) (hb:b≤100000000):∃ x t',lA t a b=some (x,t')∧Tp t'∧a≤x∧x≤b:=by
 obtain ⟨x,t',h1,h2,h3,h4,_⟩:=yu h (b - a+1) (by omega)
 refine ⟨a+x,t',?_,h2,by omega,by have:=h4 (by omega); omega⟩
 have:=h4 (by omega)
 simp only [lA]
 rw [cL (n:=b - a) (by omega) (by omega),cL (n:=b - a+1) (by omega) (by omega),h1]
 simp only [Option.bind_some]
 rw [cL (by omega) (by omega)]
theorem TW {t:aU} (h:Tp t) (n:Int) (hn:n≤1000000000):∃ b t',qS t n=some (b,t')∧Tp t':=by
 obtain ⟨x,t',h1,h2,_⟩:=yu h n hn
 exact ⟨(x == i64 (n - 1)),t',by simp only [qS,h1,Option.bind_some],h2⟩
theorem QS {t:aU} (h:Tp t) (l:List Int) (hl:1≤l.length) (Cz:l.length≤1000):∃ x t',vG t l=some (x,t')∧Tp t'∧x ∈ l:=by
 obtain ⟨x,t',h1,h2,h3,h4,_⟩:=yu h l.length (by omega)
 have:=h4 (by omega)
 have hx:idx l x=some l[x.toNat]:=by rw [kl]; exact ⟨h3,by simp⟩
 exact ⟨l[x.toNat],t',by simp only [vG,h1,Option.bind_some,hx],h2,by simp⟩
end Go.Sh
namespace Go.Sh
open Go.L
def Cf {E:Type} (st:E→bE) (l:List E) (e:E):Prop:=e ∈ l∧(st e).pk=true∧∀ e' ∈ l,(st e').pk=true→Q4 (st e') (st e)→e'=e
structure y8 {E:Type} (st:E→bE) (l C:List E):Prop where
 sorted:C.Pairwise fun a b=>jv (st a) (st b)<0
 mem:∀ e,e ∈ C ↔ Cf st l e
theorem y8.unique {E:Type} {st:E→bE} {l C D:List E} (h:y8 st l C) (h':y8 st l D):C=D :=
 pL (R:=fun a b=>jv (st a) (st b)<0) (fun a h=>by rw [jw] at h; omega) (fun a b c h1 h2=>by rw [jw] at *; omega) h.sorted h'.sorted fun e=>by rw [h.mem,h'.mem]
theorem Cf.congr {E:Type} {st:E→bE} {l m:List E} (h:∀ e,e ∈ l ↔ e ∈ m) (e:E):Cf st l e ↔ Cf st m e:=by
 unfold Cf; simp only [h]
theorem y8.congr {E:Type} {st:E→bE} {l m C:List E} (h:∀ e,e ∈ l ↔ e ∈ m) (hC:y8 st l C):y8 st m C :=
 ⟨hC.sorted,fun e=>by rw [hC.mem,Cf.congr h]⟩
structure tf {E:Type} (st:E→bE) (l:List E) (cl:List Int):Prop where
 len:l.length=cl.length
 iff:∀ (i:Nat) (x:E) (c:Int),l[i]?=some x→cl[i]?=some c →
  ((∀ (k:Nat) (y:E) (d:Int),l[k]?=some y→cl[k]?=some d→st y=st x→d=c) ↔ (∀ y ∈ l,st y=st x→y=x))
theorem GH {x y:bE} (h1:x.Time=y.Time) (h2:x.Source=y.Source) (h3:x.Seq=y.Seq):x=y:=by
 cases x; cases y; simp_all
theorem tA {E:Type} {st:E→bE} {l:List E} {cl:List Int} (h:tf st l cl) {i:Nat} {x:E} (hx:l[i]?=some x) :
  counts (l.map st) cl i ↔ Cf st l x∧∀ k,k<i→l[k]? ≠ some x:=by
 have hi:i<l.length:=(List.getElem?_eq_some_iff.1 hx).1
 have fD:i<cl.length:=by have:=h.len; omega
 obtain ⟨c,hc⟩:∃ c,cl[i]?=some c:=⟨cl[i],by simp [fD]⟩
 have key:=h.iff i x c hx hc
 have GV:(l.map st)[i]?=some (st x):=by simp [hx]
 have hcl:∀ (k:Nat) (y:E),l[k]?=some y→∃ d,cl[k]?=some d:=fun k y hy=>by
  have:k<l.length:=(List.getElem?_eq_some_iff.1 hy).1
  have hk:k<cl.length:=by have:=h.len; omega
  exact ⟨cl[k],by simp [hk]⟩
 constructor
 ·rintro ⟨⟨x',h1,h2⟩,h3⟩
  rw [GV] at h1; cases h1
  have nw:∀ (k:Nat) (y:E) (d:Int),l[k]?=some y→cl[k]?=some d→(st y).pk=true→Q4 (st y) (st x)→(st y).Time=(st x).Time∧d=c:=fun k y d hy hd hg hs=>by
   have hk:(l.map st)[k]?=some (st y):=by simp [hy]
   have:=(h3 k ⟨st y,hk,hg⟩).1
   apply Classical.byContradiction
   intro hn
   refine this ⟨st x,st y,c,d,GV,hk,hc,hd,⟨hs.1.symm,hs.2.symm⟩,?_⟩
   by_cases ht:(st x).Time=(st y).Time
   ·exact .inr fun hcd=>hn ⟨ht.symm,hcd.symm⟩
   ·exact .inl ht
  have heq:∀ y ∈ l,st y=st x→y=x:=key.1 fun k y d hy hd hs=>(nw k y d hy hd (by rw [hs]; exact h2) (by rw [hs]; exact ⟨rfl,rfl⟩)).2
  refine ⟨⟨List.mem_of_getElem? hx,h2,fun y hy hg hs=>?_⟩,fun k hk hkx=>?_⟩
  ·obtain ⟨k,hk⟩:=List.getElem?_of_mem hy
   obtain ⟨d,hd⟩:=hcl k y hk
   exact heq y hy (GH (nw k y d hk hd hg hs).1 hs.1 hs.2)
  ·have Zn:(l.map st)[k]?=some (st x):=by simp [hkx]
   exact (h3 k ⟨st x,Zn,h2⟩).2 hk (by rw [Zn,GV])
 ·rintro ⟨⟨h1,h2,h3⟩,h4⟩
  refine ⟨⟨st x,GV,h2⟩,fun k hk=>⟨?_,fun wC he=>?_⟩⟩
  ·rintro ⟨x',y',c',d,a1,a2,a3,a4,a5,a6⟩
   rw [GV] at a1; cases a1
   rw [hc] at a3; cases a3
   simp only [List.getElem?_map,Option.map_eq_some_iff] at a2
   obtain ⟨y,hy,rfl⟩:=a2
   have hgy:(st y).pk=true:=by
    obtain ⟨z,b1,b2⟩:=hk
    simp only [List.getElem?_map,hy,Option.map_some,Option.some.injEq] at b1
    rw [b1]; exact b2
   have G3:y=x:=h3 y (List.mem_of_getElem? hy) hgy ⟨a5.1.symm,a5.2.symm⟩
   subst G3
   rcases a6 with a6 | a6
   ·exact a6 rfl
   ·refine a6 (key.2 (fun z hz ZD=>h3 z hz (by rw [ZD]; exact h2) (by rw [ZD]; exact ⟨rfl,rfl⟩)) k y d hy a4 rfl).symm
  ·obtain ⟨z,b1,b2⟩:=hk
   rw [b1,GV] at he
   cases he
   simp only [List.getElem?_map,Option.map_eq_some_iff] at b1
   obtain ⟨y,hy,G3⟩:=b1
   have:y=x:=h3 y (List.mem_of_getElem? hy) (by rw [G3]; exact h2) (by rw [G3]; exact ⟨rfl,rfl⟩)
   subst this
   exact h4 k wC hy
theorem rN {E:Type} [DecidableEq E] {x:E}:∀ {l:List E},x ∈ l→∃ i:Nat,l[i]?=some x∧∀ k,k<i→l[k]? ≠ some x
  | [],h=>by simp at h
  | y :: r,h=>by
    by_cases wH:y=x
    · exact ⟨0,by simp [wH],by omega⟩
    · have hr : x ∈ r := by rcases List.mem_cons.1 h with h | h
                            · exact absurd h.symm wH
                            · exact h
      obtain ⟨i,h1,h2⟩:=rN hr
      refine ⟨i+1,by simpa using h1,fun k hk=>?_⟩
      cases k with
      | zero=>simpa using wH
      | succ k=>simpa using h2 k (by omega)
def ks {E:Type} (l:List E) (a:List Int):List E:=a.filterMap fun i=>l[i.toNat]?
theorem rn {E:Type} {l:List E}:∀ {a:List Int},(∀ i ∈ a,i.toNat<l.length)→(ks l a).length=a.length
 | [],_=>rfl
 | i :: a,h=>by
  have hi:=h i (by simp)
  have:=rn (l:=l) (a:=a) fun j hj=>h j (by simp [hj])
  simp only [ks] at this
  simp [ks,hi,this]
theorem Ei {E:Type} [DecidableEq E] {st:E→bE} {l:List E} {cl:List Int} (h:tf st l cl) {a:List Int} (ha:lZ (l.map st) cl a):y8 st l (ks l a):=by
 have hlt:∀ i ∈ a,i.toNat<l.length:=fun i hi=>by have:=lJ ((ha.mem i).1 hi).2; simpa using this
 refine ⟨?_,fun e=>?_⟩
 ·unfold ks
  rw [List.pairwise_filterMap]
  refine List.Pairwise.imp_of_mem (fun {i j} hi hj tW=>?_) ha.sorted
  intro x hx y hy
  obtain ⟨p,q,h1,h2,h3⟩:=tW
  simp only [List.getElem?_map,Option.map_eq_some_iff] at h1 h2
  obtain ⟨x',h4,rfl⟩:=h1
  obtain ⟨y',h5,rfl⟩:=h2
  simp_all
 ·simp only [ks,List.mem_filterMap]
  constructor
  ·rintro ⟨i,hi,hx⟩
   exact ((tA h hx).1 ((ha.mem i).1 hi).2).1
  ·intro he
   obtain ⟨i,h1,h2⟩:=rN he.1
   exact ⟨(i:Int),(ha.mem _).2 ⟨by omega,by simpa using (tA h h1).2 ⟨he,h2⟩⟩,by simpa using h1⟩
def Cj {E:Type} [DecidableEq E] (l:List E):List Int:=l.map fun x=>(l.findIdx (fun y=>decide (y=x)):Int)
theorem D0 {E:Type} [DecidableEq E] (st:E→bE) (l:List E):tf st l (Cj l):=by
 refine ⟨by simp [Cj],fun i x c hx hc=>?_⟩
 have VF:c=(l.findIdx (fun y=>decide (y=x)):Int):=by simp [Cj,hx] at hc; exact hc.symm
 constructor
 ·intro h y hy hs
  obtain ⟨k,hk⟩:=List.getElem?_of_mem hy
  have:=h k y (l.findIdx (fun z=>decide (z=y)):Int) hk (by simp [Cj,hk]) hs
  rw [VF] at this
  have hf:l.findIdx (fun z=>decide (z=y))=l.findIdx (fun z=>decide (z=x)):=by omega
  have hlt:l.findIdx (fun z=>decide (z=x))<l.length:=List.findIdx_lt_length_of_exists ⟨x,List.mem_of_getElem? hx,by simp⟩
  have e1:=List.findIdx_getElem (xs:=l) (p:=fun z=>decide (z=x)) (w:=hlt)
  have WY:l.findIdx (fun z=>decide (z=y))<l.length:=by rw [hf]; exact hlt
  have e2:=List.findIdx_getElem (xs:=l) (p:=fun z=>decide (z=y)) (w:=WY)
  simp only [decide_eq_true_eq] at e1 e2
  rw [← e1,← e2]
  simp only [hf]
 ·intro h k y d hy hd hs
  have:=h y (List.mem_of_getElem? hy) hs
  subst this
  simp [Cj,hy] at hd
  rw [VF,← hd]
def tz {E:Type} [DecidableEq E] (st:E→bE) (l:List E):List Int:=l.map fun x=>if l.find? (fun y=>decide (st y=st x))=some x then 0 else 1
theorem DZ {E:Type} [DecidableEq E] (st:E→bE) (l:List E):tf st l (tz st l):=by
 refine ⟨by simp [tz],fun i x c hx hc=>?_⟩
 have VF:c=if l.find? (fun y=>decide (st y=st x))=some x then 0 else 1:=by simp [tz,hx] at hc; exact hc.symm
 obtain ⟨f,hf⟩:∃ f,l.find? (fun y=>decide (st y=st x))=some f:=by
  cases h:l.find? (fun y=>decide (st y=st x)) with
  | none=>rw [List.find?_eq_none] at h; exact absurd (h x (List.mem_of_getElem? hx)) (by simp)
  | some f=>exact ⟨f,rfl⟩
 have Zk:st f=st x:=by simpa using List.find?_some hf
 have Rt:f ∈ l:=List.mem_of_find?_eq_some hf
 have Zi:∀ y,st y=st x→l.find? (fun z=>decide (st z=st y))=some f:=fun y hy=>by rw [hy]; exact hf
 constructor
 ·intro h
  obtain ⟨k,hk⟩:=List.getElem?_of_mem Rt
  have h0:=h k f 0 hk (by simp [tz,hk,Zi f Zk]) Zk
  have nw:∀ y ∈ l,st y=st x→y=f:=fun y hy hs=>by
   obtain ⟨j,hj⟩:=List.getElem?_of_mem hy
   have:=h j y _ hj (by simp only [tz,List.getElem?_map,hj,Option.map_some]; rfl) hs
   rw [← h0,Zi y hs] at this
   by_cases he:f=y
   ·exact he.symm
   ·rw [if_neg (by simpa using he)] at this; omega
  intro y hy hs
  rw [nw y hy hs,nw x (List.mem_of_getElem? hx) rfl]
 ·intro h k y d hy hd hs
  have:=h y (List.mem_of_getElem? hy) hs
  subst this
  simp only [tz,List.getElem?_map,hy,Option.map_some,Option.some.injEq] at hd
  rw [VF,← hd]
def GR {E:Type} [DecidableEq E] (st:E→bE) (l:List E):List E:=ks l (jF (l.map st) (Cj l))
theorem Ol {E:Type} [DecidableEq E] (st:E→bE) (l:List E):y8 st l (GR st l):=Ei (D0 st l) (ot _ _)
theorem HD {E:Type} [DecidableEq E] {st:E→bE} {l:List E} {cl:List Int} (h:tf st l cl):ks l (jF (l.map st) cl)=GR st l :=
 (Ei h (ot _ _)).unique (Ol st l)
theorem wq {l:List bE} {cl:List Int} {i:Int} (h:i ∈ jF l cl):0≤i∧i.toNat<l.length:=by
 have:=((ot l cl).mem i).1 h; exact ⟨this.1,lJ this.2⟩
theorem D6 {E:Type} [DecidableEq E] {st:E→bE} {l:List E} {cl:List Int} (h:tf st l cl):(jF (l.map st) cl).length=(GR st l).length:=by
 rw [← HD h,rn]
 intro i hi; have:=(wq hi).2; simpa using this
theorem Fs {E:Type} [DecidableEq E] {st:E→bE} {l:List E} {cl:List Int} (h:tf st l cl):qV (l.map st) cl=if 300<(GR st l).length then ([],3) else (jF (l.map st) cl,0):=by
 have h1:=h.len
 unfold qV
 rw [if_neg (by simpa using h1),D6 h]
theorem F5 {α:Type} {lt:α→α→Bool} (l:List α):(qk lt l).length=l.length:=ij.length_eq
theorem tu (l:List bE) (cl:List Int):(jF l cl).length≤l.length:=by
 unfold jF
 rw [F5,List.length_map]
 have:=List.length_filter_le (ov l cl) (List.range l.length)
 simpa using this
theorem HC {E:Type} [DecidableEq E] (st:E→bE) (l:List E):(GR st l).length≤l.length:=by
 rw [← D6 (D0 st l)]
 have:=tu (l.map st) (Cj l)
 simpa using this
def ji {E:Type} [DecidableEq E] (st:E→bE) (l:List E):List E × Int:=if 300<(GR st l).length then ([],3) else (GR st l,0)
theorem vI {E:Type} [DecidableEq E] {st:E→bE} {l:List E} (h:l.length≤300):ji st l=(GR st l,0):=by
 unfold ji; rw [if_neg (by have:=HC st l; omega)]
end Go.Sh
namespace Go.Sh
open Go.L
def run {α σ R:Type} (g:Nat→α→σ→R ⊕ σ) (e:σ→R):Nat→List α→σ→R
 | _,[],s=>e s
 | i,x :: l,s=>match g i x s with | .inl r=>r | .inr s'=>run g e (i+1) l s'
theorem L7 {α σ R:Type} {a:List α} {L:Nat→Int→σ→Option R} (g:Nat→α→σ→R ⊕ σ) (e:σ→R) (I:Nat→σ→Prop) (hb:a.length<1000000)
  (hS:∀ n (i:Nat) x s,a[i]?=some x→I i s→(match g i x s with | .inl r=>L (n+1) (i:Int) s=some r | .inr s'=>L (n+1) (i:Int) s=L n ((i+1:Nat):Int) s'∧I (i+1) s'))
  (hE:∀ n s,I a.length s→L (n+1) (a.length:Int) s=some (e s)) :
  ∀ (l p:List α) (n:Nat) (s:σ),a=p++l→l.length<n→I p.length s→L n (p.length:Int) s=some (run g e p.length l s):=by
 intro l
 induction l with
 | nil=>intro p n s hp hn hI; cases n with
  | zero=>omega
  | succ n =>
   have:a=p:=by simpa using hp
   subst this
   rw [hE n s hI]; rfl
 | cons x l ih=>intro p n s hp hn hI; cases n with
  | zero=>omega
  | succ n =>
   have hx:a[p.length]?=some x:=by rw [hp]; simp
   have:=hS n p.length x s hx hI
   unfold run
   cases hg:g p.length x s with
   | inl r=>rw [hg] at this; exact this
   | inr s' =>
    rw [hg] at this
    obtain ⟨h1,h2⟩:=this
    rw [h1]
    have e1:p.length+1=(p++[x]).length:=by simp
    rw [e1] at h2 ⊢
    exact ih (p++[x]) n s' (by rw [hp]; simp) (by simpa using hn) h2
theorem Kg {α σ R:Type} {a:List α} {L:Nat→Int→σ→Option R} (g:Nat→α→σ→R ⊕ σ) (e:σ→R) (I:Nat→σ→Prop) {s0:σ} {F:Nat} (hb:a.length<1000000)
  (hS:∀ n (i:Nat) x s,a[i]?=some x→I i s→(match g i x s with | .inl r=>L (n+1) (i:Int) s=some r | .inr s'=>L (n+1) (i:Int) s=L n ((i+1:Nat):Int) s'∧I (i+1) s'))
  (hE:∀ n s,I a.length s→L (n+1) (a.length:Int) s=some (e s)) (hF:a.length<F) (h0:I 0 s0):L F 0 s0=some (run g e 0 a s0) :=
 L7 g e I hb hS hE a [] F s0 rfl hF h0
def scan {α R:Type} (g:Nat→α→Option R) (e:R):Nat→List α→R
 | _,[]=>e
 | i,x :: l=>match g i x with | some r=>r | .none=>scan g e (i+1) l
theorem gx {α R:Type} {a:List α} {L:Nat→Int→Option R} (g:Nat→α→Option R) (e:R) {F:Nat} (hb:a.length<1000000)
  (hS:∀ n (i:Nat) x,a[i]?=some x→i<1000000→L (n+1) (i:Int)=match g i x with | some r=>some r | .none=>L n ((i+1:Nat):Int))
  (hE:∀ n,L (n+1) (a.length:Int)=some e) (hF:a.length<F):L F 0=some (scan g e 0 a):=by
 have key:∀ (l p:List α) (n:Nat),a=p++l→l.length<n→L n (p.length:Int)=some (scan g e p.length l):=by
  intro l
  induction l with
  | nil=>intro p n hp hn; cases n with
   | zero=>omega
   | succ n =>
    have:a=p:=by simpa using hp
    subst this
    rw [hE n]; rfl
  | cons x l ih=>intro p n hp hn; cases n with
   | zero=>omega
   | succ n =>
    have hx:a[p.length]?=some x:=by rw [hp]; simp
    have hl:p.length<1000000:=by rw [hp] at hb; simp at hb; omega
    rw [hS n p.length x hx hl]
    unfold scan
    cases hg:g p.length x with
    | some r=>rfl
    | none =>
     simp only
     have e1:p.length+1=(p++[x]).length:=by simp
     rw [e1]
     exact ih (p++[x]) n (by rw [hp]; simp) (by simpa using hn)
 exact key a [] F rfl hF
theorem Bx {α:Type} (f:α→Bool):∀ (l:List α) (i:Nat),scan (fun _ x=>if f x=true then .none else some false) true i l=l.all f
 | [],i=>rfl
 | x :: l,i=>by
  unfold scan
  rw [List.all_cons]
  cases hf:f x with
  | true=>simp [Bx f l]
  | false=>simp
theorem oo {α:Type} {a:List α} {L:Nat→Int→Option Bool} (f:α→Bool) {F:Nat} (hb:a.length<1000000)
  (hS:∀ n (i:Nat) x,a[i]?=some x→i<1000000→L (n+1) (i:Int)=if f x=true then L n ((i+1:Nat):Int) else some false)
  (hE:∀ n,L (n+1) (a.length:Int)=some true) (hF:a.length<F):L F 0=some (a.all f):=by
 rw [gx (fun _ x=>if f x=true then .none else some false) true hb (fun n i x hx hi=>?_) hE hF,Bx]
 rw [hS n i x hx hi]
 cases f x <;> rfl
theorem EX {α:Type} [DecidableEq α]:∀ (l m p:List α),l.length=m.length→scan (fun i x=>if (p++m)[i]?=some x then .none else some false) true p.length l=decide (l=m)
 | [],[],p,_=>rfl
 | x :: l,y :: m,p,h=>by
  unfold scan
  have e:(p++y :: m)[p.length]?=some y:=by simp
  rw [e]
  by_cases wH:x=y
  ·subst wH
   simp only [if_true,List.cons.injEq,true_and]
   have:=EX l m (p++[x]) (by simpa using h)
   simpa using this
  ·have:¬ (some y=some x):=fun hh=>wH (Option.some.inj hh).symm
   simp [this,wH]
theorem Hz {α:Type} [DecidableEq α] {a b:List α} {L:Nat→Int→Option Bool} {F:Nat} (hl:a.length=b.length) (hb:a.length<1000000)
  (hS:∀ n (i:Nat) x y,a[i]?=some x→b[i]?=some y→i<1000000→L (n+1) (i:Int)=if x=y then L n ((i+1:Nat):Int) else some false)
  (hE:∀ n,L (n+1) (a.length:Int)=some true) (hF:a.length<F):L F 0=some (decide (a=b)):=by
 rw [gx (fun i x=>if b[i]?=some x then .none else some false) true hb (fun n i x hx hi=>?_) hE hF]
 ·exact congrArg some (EX a b [] hl)
 ·have fD:i<b.length:=by rw [← hl]; exact (List.getElem?_eq_some_iff.1 hx).1
  rw [hS n i x b[i] hx (by simp [fD]) hi]
  by_cases h:x=b[i]
  ·simp [h,fD]
  ·have:¬ (b[i]?=some x):=fun hh=>by rw [List.getElem?_eq_getElem fD] at hh; exact h (Option.some.inj hh).symm
   simp [h,this]
theorem fA {α:Type} {a:List α} {i:Nat} {x:α} (h:a[i]?=some x):decide ((i:Int)<(a.length:Int))=true:=by
 have:=(List.getElem?_eq_some_iff.1 h).1; simp; omega
theorem fz (n:Nat):decide ((n:Int)<(n:Int))=false:=by simp
theorem ep {α:Type} {a:List α} {i:Nat} {x:α} (h:a[i]?=some x):idx a (i:Int)=some x:=by rw [oD,h]
theorem fm {i:Nat} (h:i<1000000):i64 ((i:Int)+1)=((i+1:Nat):Int):=by rw [cL (by omega) (by omega)]; rfl
theorem tH {α β R:Type} {a:List α} {L:Nat→Int→List β→Option R} (f:α→β) (e:List β→R) {z:β} {F:Nat}
  (hS:∀ n (i:Nat) x (l l':List β),a[i]?=some x→l.length=i→L (n+1) (i:Int) (l++z :: l')=L n ((i+1:Nat):Int) (l++f x :: l'))
  (hE:∀ n l,L (n+1) (a.length:Int) l=some (e l)) (hF:a.length<F):L F 0 (List.replicate a.length z)=some (e (a.map f)):=by
 have key:∀ (s p:List α) (n:Nat),a=p++s→s.length<n→L n (p.length:Int) (p.map f++List.replicate s.length z)=some (e (a.map f)):=by
  intro s
  induction s with
  | nil=>intro p n hp hn; cases n with
   | zero=>omega
   | succ n =>
    have:a=p:=by simpa using hp
    subst this
    rw [hE n]; simp
  | cons x s ih=>intro p n hp hn; cases n with
   | zero=>omega
   | succ n =>
    have hx:a[p.length]?=some x:=by rw [hp]; simp
    rw [List.length_cons,List.replicate_succ,hS n p.length x (p.map f) (List.replicate s.length z) hx (by simp)]
    have e1:p.map f++f x :: List.replicate s.length z=(p++[x]).map f++List.replicate s.length z:=by simp
    have e2:p.length+1=(p++[x]).length:=by simp
    rw [e1,e2]
    exact ih (p++[x]) n (by rw [hp]; simp) (by simpa using hn)
 exact key a [] F rfl hF
theorem rB {α:Type} {f:Nat→α→Bool} {e:Bool}:∀ (l:List α) (i:Nat),(scan (fun i x=>if f i x=true then .none else some false) e i l=true ↔ e=true∧∀ (j:Nat) x,l[j]?=some x→f (i+j) x=true)
 | [],i=>by simp [scan]
 | x :: l,i=>by
  unfold scan
  cases hf:f i x with
  | false =>
   simp only [Bool.false_eq_true,if_false]
   constructor
   ·intro h; cases h
   ·rintro ⟨_,h⟩; have:=h 0 x rfl; rw [Nat.add_zero,hf] at this; cases this
  | true =>
   simp only [if_true]
   rw [rB l (i+1)]
   constructor
   ·rintro ⟨h1,h2⟩
    refine ⟨h1,fun j y hy=>?_⟩
    cases j with
    | zero=>simp at hy; subst hy; exact hf
    | succ j=>have:=h2 j y (by simpa using hy); rw [← this]; congr 1; omega
   ·rintro ⟨h1,h2⟩
    refine ⟨h1,fun j y hy=>?_⟩
    have:=h2 (j+1) y (by simpa using hy)
    rw [← this]; congr 1; omega
theorem Y0 {a b:Bool} (h:a=true ↔ b=true):a=b:=by cases a <;> cases b <;> simp_all
end Go.Sh
namespace Go.Sh
open Go.L
def Mt (F:Nat) (x:ab):Prop:=(x.aK.length<1000000∧x.aK.length<F)∧(x.aL.length<1000000∧x.aL.length<F)
def ze (F:Nat) (l:List ba):Prop:=∀ e ∈ l,Mt F e.Item
theorem K9 {F:Nat} {a b:List Int} (hb:a.length<1000000) (hF:a.length<F):Ap F a b=some (decide (a=b)):=by
 unfold Ap
 by_cases h:a.length=b.length
 ·have h1:((a.length:Int) != (b.length:Int))=false:=by simp [h]
  simp only [h1,Bool.false_eq_true,if_false]
  refine Hz h hb (fun n i x y hx hy hi=>?_) (fun n=>?_) hF
  ·simp only [Gm,JS,fA hx,if_true,ep hx,ep hy,Option.bind_some,fm hi]
   by_cases wH:x=y <;> simp [wH]
  ·simp only [Gm,JS,fz,Bool.false_eq_true,if_false]
 ·have h1:((a.length:Int) != (b.length:Int))=true:=by simp; omega
  have h2:a ≠ b:=fun nf=>h (by rw [nf])
  simp [h1,h2]
theorem HA {F:Nat} {a b:List ag} (hb:a.length<1000000) (hF:a.length<F):J5 F a b=some (decide (a=b)):=by
 unfold J5
 by_cases h:a.length=b.length
 ·have h1:((a.length:Int) != (b.length:Int))=false:=by simp [h]
  simp only [h1,Bool.false_eq_true,if_false]
  refine Hz h hb (fun n i x y hx hy hi=>?_) (fun n=>?_) hF
  ·simp only [Gk,JP,fA hx,if_true,ep hx,ep hy,Option.bind_some,fm hi]
   by_cases wH:x=y <;> simp [wH]
  ·simp only [Gk,JP,fz,Bool.false_eq_true,if_false]
 ·have h1:((a.length:Int) != (b.length:Int))=true:=by simp; omega
  have h2:a ≠ b:=fun nf=>h (by rw [nf])
  simp [h1,h2]
theorem Dt {F:Nat} {a b:ab} (h:Mt F a):Bg F a b=some (decide (a=b)):=by
 unfold Bg
 rw [HA h.1.1 h.1.2,K9 h.2.1 h.2.2]
 obtain ⟨i,v,s,p,e⟩:=a
 obtain ⟨i',v',s',p',e'⟩:=b
 simp only [ab.mk.injEq,decide_eq_true_eq,beq_iff_eq,Option.bind_some]
 by_cases h1:i=i'
 ·by_cases h2:v=v'
  ·by_cases h3:s=s'
   ·by_cases h4:p=p'
    ·simp [h1,h2,h3,h4]
    ·simp [h4]
   ·simp [h3]
  ·simp [h2]
 ·simp [h1]
theorem Q3 {F:Nat} {a b:ba} (h:Mt F a.Item):jZ F a b=some (decide (a=b)):=by
 unfold jZ
 rw [Dt h]
 obtain ⟨s,k,g,r,f⟩:=a
 obtain ⟨s',k',g',r',f'⟩:=b
 simp only [ba.mk.injEq,decide_eq_true_eq,beq_iff_eq,Option.bind_some]
 by_cases h1:s=s'
 ·by_cases h2:k=k'
  ·by_cases h3:r=r'
   ·by_cases h4:f=f'
    ·simp [h1,h2,h3,h4]
    ·simp [h4]
   ·simp [h3]
  ·simp [h2]
 ·simp [h1]
theorem ju {F:Nat} {x:ab} (h:Mt F x):yE x=some x:=by
 unfold yE
 rw [fh (by simp; have:=h.1.1; omega),Option.bind_some,fh (by simp; have:=h.2.1; omega)]
 rfl
theorem wU {α β:Type} [DecidableEq α] (k k':α) (v:β):∀ m:List (α × β),ib (eW m k v) k'=if k'=k then some v else ib m k'
  | [] => by simp only [eW, ib]; by_cases h : k = k'
             · simp [h]
             · simp [h,Ne.symm h]
  | (a,b) :: r=>by
    simp only [eW]
    by_cases h:a=k
    · subst h
      simp only [if_true,ib]
      by_cases h2:a=k'
      · simp [h2]
      · simp [h2,Ne.symm h2]
    · simp only [h,if_false,ib,wU k k' v r]
      by_cases h2:a=k'
      · subst h2; simp [h]
      · simp [h2]
theorem Qu {i:Nat} (h:i<1000000000):i64 ((i:Int)+1)=((i+1:Nat):Int):=by rw [cL (by omega) (by omega)]; rfl
theorem mj {α:Type} {p:List α} {x:α} {s:List α} {n:Nat} (h:p.length=n):idx (p++x :: s) (n:Int)=some x:=by rw [← h]; exact nV p x s
theorem oK {α:Type} {p:List α} {x y:α} {s:List α} {n:Nat} (h:p.length=n):(p++x :: s).set (n:Int).toNat y=p++y :: s:=by
 simp [← h]
theorem split_loop {F0:List ba} {p1:ba→Option bE} {p2:ba→ba→Option Bool} (hb:F0.length<1000000) (h1:∀ a ∈ F0,p1 a=some a.ak) (h2:∀ a ∈ F0,∀ b ∈ F0,p2 a b=some (decide (a=b))) (z:bE) :
  ∀ (s p:List ba) (n:Nat) (m:List (bE × Int)),F0=p++s→s.length<n→(∀ x,ib m x=(p.findIdx? fun y=>decide (y.ak=x)).map Int.ofNat) →
   C2 F0 p1 p2 n (p.length:Int) (p.map (·.ak)++List.replicate s.length z) (p.map (fun x=>if F0.find? (fun y=>decide (y.ak=x.ak))=some x then 0 else 1)++List.replicate s.length 0) m
    = some (F0.map (·.ak),tz (·.ak) F0):=by
 intro s
 induction s with
 | nil =>
  intro p n m hp hn hm
  cases n with
  | zero=>omega
  | succ n =>
   have:F0=p:=by simpa using hp
   subst this
   simp only [C2,JO,Int.lt_irrefl,decide_false,Bool.false_eq_true,if_false,List.length_nil,List.replicate_zero,List.append_nil,tz]
 | cons x s ih =>
  intro p n m hp hn hm
  cases n with
  | zero=>omega
  | succ n =>
   have hx:x ∈ F0:=by rw [hp]; simp
   have hlen:p.length<1000000:=by rw [hp] at hb; simp at hb; omega
   have d1:decide ((p.length:Int)<(F0.length:Int))=true:=by rw [hp]; exact Ro p x s
   have i1:idx F0 (p.length:Int)=some x:=by rw [hp]; exact nV p x s
   simp only [C2,JO,d1,if_true,i1,Option.bind_some,h1 x hx,List.length_cons,List.replicate_succ]
   rw [mj (by simp),oK (by simp),mj (by simp)]
   simp only [Option.bind_some,Qu (show p.length<1000000000 by omega),hm]
   have HZ:((p.length+1:Nat):Int)=((p++[x]).length:Int):=by simp
   have vy:p.map (·.ak)++x.ak :: List.replicate s.length z=(p++[x]).map (·.ak)++List.replicate s.length z:=by simp
   have hF:F0=(p++[x])++s:=by rw [hp]; simp
   have Zl:∀ q:ba→Bool,F0.find? q=((p.find? q).or (if q x then some x else s.find? q)):=fun q=>by
    rw [hp,List.find?_append,List.find?_cons]
    cases q x <;> simp
   cases hj:p.findIdx? (fun y=>decide (y.ak=x.ak)) with
   | none =>
    simp only [Option.map_none,Option.isSome_none,Bool.not_false,if_true]
    have hpn:p.find? (fun y=>decide (y.ak=x.ak))=.none:=by
     rw [List.findIdx?_eq_none_iff] at hj
     rw [List.find?_eq_none]; intro y hy; simpa using hj y hy
    have hc:F0.find? (fun y=>decide (y.ak=x.ak))=some x:=by rw [Zl,hpn]; simp
    have hcl:p.map (fun x=>if F0.find? (fun y=>decide (y.ak=x.ak))=some x then (0:Int) else 1)++0 :: List.replicate s.length 0=(p++[x]).map (fun x=>if F0.find? (fun y=>decide (y.ak=x.ak))=some x then (0:Int) else 1)++List.replicate s.length 0:=by
     simp [hc]
    rw [hcl,vy,HZ]
    refine ih (p++[x]) n _ hF (by simpa using hn) fun y=>?_
    rw [wU,hm,List.findIdx?_append]
    by_cases G3:y=x.ak
    ·subst G3; simp [hj,List.findIdx?_cons]
    ·rw [if_neg G3]
     cases p.findIdx? (fun z=>decide (z.ak=y)) with
     | none=>simp [List.findIdx?_cons,Ne.symm G3]
     | some j=>simp
   | some j =>
    rw [List.findIdx?_eq_some_iff_getElem] at hj
    obtain ⟨ny,Rw,HU⟩:=hj
    simp only [decide_eq_true_eq] at Rw
    have hpf:p.find? (fun y=>decide (y.ak=x.ak))=some p[j]:=by
     rw [List.find?_eq_some_iff_getElem]
     exact ⟨by simpa using Rw,j,ny,rfl,fun k hk=>by simpa using HU k hk⟩
    have hfj:idx F0 (j:Int)=some p[j]:=by
     rw [oD,hp,List.getElem?_append_left ny]; simp [ny]
    have hpj:p[j] ∈ F0:=by rw [hp]; simp
    have hc:F0.find? (fun y=>decide (y.ak=x.ak))=some p[j]:=by rw [Zl,hpf]; simp
    simp only [Option.map_some,Option.isSome_some,Bool.not_true,Bool.false_eq_true,if_false,Option.getD_some]
    have j6:∀ y,ib m y=((p++[x]).findIdx? fun z=>decide (z.ak=y)).map Int.ofNat:=fun y=>by
     rw [hm,List.findIdx?_append]
     cases hq:p.findIdx? (fun z=>decide (z.ak=y)) with
     | some j=>simp
     | none =>
      have:¬ x.ak=y:=fun wH=>by
       subst wH
       rw [List.findIdx?_eq_none_iff] at hq
       have:=hq p[j] (by simp)
       simp [Rw] at this
      simp [List.findIdx?_cons,this]
    show (idx F0 ((j:Nat):Int)).bind _=_
    rw [hfj]
    simp only [Option.bind_some,h2 _ hpj _ hx]
    by_cases he:p[j]=x
    ·have hcl:p.map (fun x=>if F0.find? (fun y=>decide (y.ak=x.ak))=some x then (0:Int) else 1)++0 :: List.replicate s.length 0=(p++[x]).map (fun x=>if F0.find? (fun y=>decide (y.ak=x.ak))=some x then (0:Int) else 1)++List.replicate s.length 0:=by
      simp [hc,he]
     simp only [he,decide_true,Bool.not_true,Bool.false_eq_true,if_false]
     rw [hcl,vy,HZ]
     exact ih (p++[x]) n _ hF (by simpa using hn) j6
    ·have hcl:p.map (fun x=>if F0.find? (fun y=>decide (y.ak=x.ak))=some x then (0:Int) else 1)++1 :: List.replicate s.length 0=(p++[x]).map (fun x=>if F0.find? (fun y=>decide (y.ak=x.ak))=some x then (0:Int) else 1)++List.replicate s.length 0:=by
      simp [hc,he]
     simp only [he,decide_false,Bool.not_false,if_true]
     rw [mj (by simp),oK (by simp)]
     simp only [Option.bind_some]
     rw [hcl,vy,HZ]
     exact ih (p++[x]) n _ hF (by simpa using hn) j6
theorem L9 {F:Nat} {l:List ba} {p1:ba→Option bE} {p2:ba→ba→Option Bool} (hb:l.length<1000000) (hF:l.length<F) (h1:∀ a ∈ l,p1 a=some a.ak) (h2:∀ a ∈ l,∀ b ∈ l,p2 a b=some (decide (a=b))) :
  J3 F l p1 p2=some (l.map (·.ak),tz (·.ak) l):=by
 unfold J3
 rw [k8 (by omega),Option.bind_some,k8 (by omega),Option.bind_some]
 exact split_loop hb h1 h2 _ l [] F [] rfl hF fun x=>by simp [ib]
theorem p4 {F:Nat} (Lc:10≤F) {l:List ba} {p1:ba→Option bE} {p2:ba→ba→Option Bool} (hb:l.length<1000000) (hF:l.length<F) (h1:∀ a ∈ l,p1 a=some a.ak) (h2:∀ a ∈ l,∀ b ∈ l,p2 a b=some (decide (a=b))) :
  JQ F l p1 p2=some (qV (l.map (·.ak)) (tz (·.ak) l)):=by
 unfold JQ
 rw [L9 hb hF h1 h2]
 simp only [Option.bind_some]
 rw [zi Lc (by simpa using hb) (by simpa using hF)]
 rfl
theorem FD {l:List ba} {a:List Int} {c:Int} {F:Nat} (hc:ze F l) (ha:∀ i ∈ a,0≤i∧i.toNat<l.length) (hb:a.length<1000000) (z:ba):∀ (s p:List Int) (n:Nat),a=p++s→s.length<n →
  Df l (a,c) n (p.length:Int) (ks l p++List.replicate s.length z)=some (ks l a,0):=by
 intro s
 induction s with
 | nil =>
  intro p n hp hn
  cases n with
  | zero=>omega
  | succ n =>
   have:a=p:=by simpa using hp
   subst this
   simp only [Df,Ar,Int.lt_irrefl,decide_false,Bool.false_eq_true,if_false,List.length_nil,List.replicate_zero,List.append_nil]
 | cons x s ih =>
  intro p n hp hn
  cases n with
  | zero=>omega
  | succ n =>
   have hx:=ha x (by rw [hp]; simp)
   have vQ:(ks l p).length=p.length:=rn fun i hi=>(ha i (by rw [hp]; simp [hi])).2
   have hlen:p.length<1000000:=by rw [hp] at hb; simp at hb; omega
   have d1:decide ((p.length:Int)<(a.length:Int))=true:=by rw [hp]; exact Ro p x s
   have i1:idx a (p.length:Int)=some x:=by rw [hp]; exact nV p x s
   have i2:idx l x=some l[x.toNat]:=by rw [kl]; exact ⟨hx.1,by simp [hx.2]⟩
   simp only [Df,Ar,d1,if_true,i1,i2,Option.bind_some,List.length_cons,List.replicate_succ]
   have hcl:=hc l[x.toNat] (List.getElem_mem hx.2)
   rw [mj vQ,Option.bind_some,ju hcl,Option.bind_some,oK vQ,mj vQ,Option.bind_some,oK vQ]
   simp only [Qu (show p.length<1000000000 by omega)]
   have e1:ks l p++l[x.toNat] :: List.replicate s.length z=ks l (p++[x])++List.replicate s.length z:=by simp [ks,hx.2]
   have e2:((p.length+1:Nat):Int)=((p++[x]).length:Int):=by simp
   rw [e1,e2]
   exact ih (p++[x]) n (by simp [hp]) (by simpa using hn)
theorem xZ {F:Nat} (Lc:10≤F) {l:List ba} (hc:ze F l) (hb:l.length<1000000) (hF:l.length<F):A7 F l=some (ji (·.ak) l):=by
 unfold A7
 rw [p4 (p1:=fun a0=>EI a0) (p2:=fun a0 a1=>jZ F a0 a1) Lc hb hF (fun a _=>rfl) (fun a ha b _=>Q3 (hc a ha))]
 rw [Fs (DZ _ _)]
 simp only [Option.bind_some,ji]
 by_cases h:300<(GR (·.ak) l).length
 ·simp [h]
 ·have hlen:=tu (l.map (·.ak)) (tz (·.ak) l)
  rw [List.length_map] at hlen
  simp only [h,if_false,bne_self_eq_false,Bool.false_eq_true]
  rw [k8 (by omega)]
  simp only [Option.bind_some]
  rw [← HD (DZ (·.ak) l)]
  refine FD hc (fun i hi=>?_) (by omega) _ _ [] F rfl (Nat.lt_of_le_of_lt hlen hF)
  have:=wq hi
  exact ⟨this.1,by simpa using this.2⟩
end Go.Sh
namespace Go.Sh
open Go.L
theorem L8 (a b:Bool):(if a=true then some true else some b)=some (a || b):=by cases a <;> rfl
theorem Oc (a b:Int):(a == b)=decide (a=b):=by rw [Bool.eq_iff_iff]; simp
def L2 (s:ByteArray):Bool:=s.data.toList.all fun b=>!(decide ((b.toNat:Int)<32) || decide ((b.toNat:Int) > 126))
theorem Vb {s:ByteArray} {i:Nat} {b:UInt8} (h:s.data.toList[i]?=some b):Gz s (i:Int)=some (b.toNat:Int):=by
 unfold Gz
 simp only [show (0:Int)≤(i:Int) by omega,if_true,Int.toNat_natCast,h,Option.map_some]
theorem Ae {F:Nat} {s:ByteArray} (hb:s.size<1000000) (hF:s.size<F):Bc F s=some (L2 s):=by
 unfold Bc L2
 have fe:(s.size:Int)=(s.data.toList.length:Int):=by
  show ((s.data.size:Nat):Int)=_
  rw [Array.length_toList]
 have hl:s.data.toList.length=s.size:=Array.length_toList
 refine oo (L:=Dl s) (fun b:UInt8=>!(decide ((b.toNat:Int)<32) || decide ((b.toNat:Int) > 126))) (by omega) (fun n i x hx hi=>?_) (fun n=>?_) (by omega)
 ·simp only [Dl,Ay,fe,fA hx,if_true,Vb hx,Option.bind_some,fm hi,L8]
  cases (decide ((x.toNat:Int)<32) || decide ((x.toNat:Int) > 126)) <;> simp
 ·simp only [Dl,Ay,fe,fz,Bool.false_eq_true,if_false]
def Ge (p:ag):Bool:=!(decide (p.Max<1) || (decide (p.Max > 40) || (decide (p.gi<0) || (decide (p.gi ≥ 16) || (decide (p.cU<0) || decide (p.cU ≥ 6)))))) &&
 (if p.Kind=1 then decide (p.Options=0) && decide (p.Key=0) else decide (p.Kind=2) && (decide (p.Options ≥ 2) && (decide (p.Options≤5) && (decide (p.Key ≥ 0) && decide (p.Key<p.Options)))))
theorem BN (p:ag):xn p=some (Ge p):=by
 unfold xn Ge
 cases (decide (p.Max<1) || (decide (p.Max > 40) || (decide (p.gi<0) || (decide (p.gi ≥ 16) || (decide (p.cU<0) || decide (p.cU ≥ 6)))))) with
 | true=>simp
 | false =>
  by_cases h1:p.Kind=1
  ·simp only [h1,Bool.false_eq_true,if_false,if_true,beq_self_eq_true,Bool.not_false,Bool.true_and,Oc]
  ·by_cases h2:p.Kind=2
   ·simp [h1,h2]
   ·simp [h1,h2]
def Mx (id:Int) (l:List Int) (i:Nat) (x:Int):Bool:=!(decide (x ≥ 0) && decide (x≤9999)) || (decide (x=id) || (decide (0<i) && decide (l.getD (i - 1) 0 ≥ x)))
def Jg (id:Int) (l:List Int):Bool:=scan (fun i x=>if Mx id l i x=true then some false else .none) true 0 l
theorem T0 {l:List Int} {i:Nat} {x:Int} (hi:i<1000000) (hx:l[i]?=some x) (h0:0<i):idx l (i64 ((i:Int) - 1))=some (l.getD (i - 1) 0):=by
 have h1:=(List.getElem?_eq_some_iff.1 hx).1
 rw [cL (by omega) (by omega),show (i:Int) - 1=((i - 1:Nat):Int) by omega,oD]
 simp [show i - 1<l.length by omega]
theorem FB {F:Nat} {id:Int} {l:List Int} (hb:l.length<1000000) (hF:l.length<F):AT F id l=some (Jg id l):=by
 unfold AT Jg
 refine gx _ _ hb (fun n i x hx hi=>?_) (fun n=>?_) hF
 ·simp only [Gs,J4,fA hx,if_true,ep hx,Option.bind_some,xr,fm hi]
  unfold Mx
  by_cases h0:0<i
  ·have d:decide ((i:Int) > 0)=true:=by simp; exact h0
   simp only [d,if_true,T0 hi hx h0,Option.bind_some,L8,h0,decide_true,Bool.true_and,Oc]
   cases (!(decide (x ≥ 0) && decide (x≤9999)) || (decide (x=id) || decide (l.getD (i - 1) 0 ≥ x))) <;> simp
  ·have d:decide ((i:Int) > 0)=false:=by simp; omega
   simp only [d,Bool.false_eq_true,if_false,Option.bind_some,L8,h0,decide_false,Bool.false_and,Oc]
   cases (!(decide (x ≥ 0) && decide (x≤9999)) || (decide (x=id) || false)) <;> simp
 ·simp only [Gs,J4,fz,Bool.false_eq_true,if_false]
def iD (x:ab):Int :=
 if (!(decide (x.ID ≥ 0) && decide (x.ID≤9999)) || (decide (x.Version<1) || decide (x.Version > 8)))=true then 2
 else if (decide ((x.cn.size:Int) > 40) || (decide ((x.aK.length:Int) > 6) || decide ((x.aL.length:Int) > 8)))=true then 3
 else if (decide (x.cn=ByteArray.mk #[]) || !(L2 x.cn))=true then 7
 else if x.aK=[] then 10
 else if x.aK.all Ge=true then (if Jg x.ID x.aL=true then 0 else 9) else 1
theorem xG {α R:Type} (f:α→Bool) (c e:R):∀ (l:List α) (i:Nat),scan (fun _ x=>if f x=true then .none else some c) e i l=if l.all f=true then e else c
 | [],i=>rfl
 | x :: l,i=>by
  unfold scan
  rw [List.all_cons]
  cases hf:f x with
  | true=>simp [xG f c e l]
  | false=>simp
theorem kI {F:Nat} {x:ab} (hF:50<F):rq F x=some (iD x):=by
 unfold rq iD xr
 simp only [Option.bind_some,L8]
 cases h1:(!(decide (x.ID ≥ 0) && decide (x.ID≤9999)) || (decide (x.Version<1) || decide (x.Version > 8))) with
 | true=>simp
 | false =>
  simp only [Bool.false_eq_true,if_false]
  cases h2:(decide ((x.cn.size:Int) > 40) || (decide ((x.aK.length:Int) > 6) || decide ((x.aL.length:Int) > 8))) with
  | true=>simp
  | false =>
   simp only [Bool.or_eq_false_iff,decide_eq_false_iff_not] at h2
   simp only [Bool.false_eq_true,if_false]
   rw [Ae (by omega) (by omega)]
   simp only [Option.bind_some,L8]
   cases (decide (x.cn=ByteArray.mk #[]) || !(L2 x.cn)) with
   | true=>simp
   | false =>
    simp only [Bool.false_eq_true,if_false]
    by_cases h3:x.aK=[]
    ·simp [h3]
    ·have h4:((x.aK.length:Int) == 0)=false:=by
      rw [beq_eq_false_iff_ne]; intro h; exact h3 (List.eq_nil_of_length_eq_zero (by omega))
     simp only [h3,h4,Bool.false_eq_true,if_false]
     rw [← xG Ge (1:Int) (if Jg x.ID x.aL=true then 0 else 9) x.aK 0]
     refine gx _ _ (by omega) (fun n i y hy hi=>?_) (fun n=>?_) (by omega)
     ·simp only [xq,A6,fA hy,if_true,ep hy,Option.bind_some,fm hi,BN]
      cases Ge y <;> simp
     ·simp only [xq,A6,fz,Bool.false_eq_true,if_false]
      rw [FB (by omega) (by omega)]
      cases Jg x.ID x.aL <;> simp
theorem qX {F:Nat} {x:ab} (hF:50<F) (h:iD x=0):Mt F x∧0≤x.ID∧x.ID≤9999∧1≤x.Version∧x.Version≤8:=by
 unfold iD at h
 by_cases h1:(!(decide (x.ID ≥ 0) && decide (x.ID≤9999)) || (decide (x.Version<1) || decide (x.Version > 8)))=true
 ·rw [if_pos h1] at h; simp at h
 ·rw [if_neg h1] at h
  by_cases h2:(decide ((x.cn.size:Int) > 40) || (decide ((x.aK.length:Int) > 6) || decide ((x.aL.length:Int) > 8)))=true
  ·rw [if_pos h2] at h; simp at h
  ·simp only [Bool.not_eq_true,Bool.or_eq_false_iff,decide_eq_false_iff_not,Bool.not_eq_false',Bool.and_eq_true,decide_eq_true_eq] at h1 h2
   refine ⟨⟨⟨?_,?_⟩,?_,?_⟩,?_,?_,?_,?_⟩ <;> omega
def gG (l:List ay):Prop:=l.Pairwise fun a b=>a.ID<b.ID
def dU (l:List ay) (n:Int):Option Nat:=l.findIdx? fun b=>b.ID == n
def nH (l:List ay) (n:Int):Nat:=(l.takeWhile fun b=>decide (b.ID<n)).length
theorem ow (l:List ay) (n:Int):nH l n≤l.length:=(List.takeWhile_sublist _).length_le
theorem tC {l:List ay} (hs:gG l) (n:Int):∀ q (hq:q<l.length),q<nH l n ↔ l[q].ID<n:=by
 induction l with
 | nil=>intro q hq; simp at hq
 | cons x s ih =>
  have Iq:=List.pairwise_cons.1 hs
  intro q hq
  unfold nH
  by_cases hx:x.ID<n
  ·rw [List.takeWhile_cons_of_pos (by simpa using hx)]
   cases q with
   | zero=>simp [hx]
   | succ q=>have:=ih Iq.2 q (by simpa using hq); unfold nH at this; simpa using this
  ·rw [List.takeWhile_cons_of_neg (by simpa using hx)]
   cases q with
   | zero=>simp; omega
   | succ q =>
    have pS:q<s.length:=by simpa using hq
    have:=Iq.1 s[q] (List.getElem_mem _)
    simp; omega
theorem TN {a b:Nat} (h:a+b<1000000000):i64 (pK .u64 (IntKind.u64.wrap (i64 ((a:Int)+b))) 1)=(((a+b) / 2:Nat):Int):=by
 rw [cL (n:=(a:Int)+b) (by omega) (by omega)]
 have h1:IntKind.u64.wrap ((a:Int)+b)=(a:Int)+b:=by
  unfold IntKind.wrap
  simp only [IntKind.bits,IntKind.signed]
  first | omega | (simp; omega)
 rw [h1]
 have h2:pK .u64 ((a:Int)+b) 1=((a:Int)+b) / 2:=by
  unfold pK
  simp only [IntKind.bits]
  rw [show (2:Int) ^ min (1:Int).toNat 64=2 from rfl]
  rw [Int.fdiv_eq_ediv_of_nonneg _ (by omega)]
 rw [h2,cL (by omega) (by omega)]
 omega
theorem xY {l:List ay} {x:Int} {p2:ay→Int→Option Int} {f:ay→Int} {k:Nat} (hb:l.length<1000000) (hk:k≤l.length) (hf:∀ y ∈ l,p2 y x=some (f y)) (h:∀ q (hq:q<l.length),q<k ↔ f l[q]<0) :
  ∀ n (a b:Nat),a≤k→k≤b→b≤l.length→b - a<n→RI l x p2 n a b=some ((k:Int),match l[k]? with | some y=>f y == 0 | .none=>false):=by
 intro n
 induction n with
 | zero=>intro a b _ _ _ h; omega
 | succ n ih =>
  intro a b ha hkb hbl hn
  simp only [RI,VV]
  by_cases nf:a<b
  ·have d:decide ((a:Int)<(b:Int))=true:=by simp; exact nf
   have hm:(a+b) / 2<l.length:=by omega
   simp only [d,if_true,TN (show a+b<1000000000 by omega),kj hm,Option.bind_some,hf _ (List.getElem_mem hm)]
   by_cases hlt:f l[(a+b) / 2]<0
   ·have:=(h _ hm).2 hlt
    simp only [hlt,decide_true,if_true,Qu (show (a+b) / 2<1000000000 by omega)]
    exact ih _ _ (by omega) hkb hbl (by omega)
   ·have:¬ (a+b) / 2<k:=fun hc=>hlt ((h _ hm).1 hc)
    simp only [hlt,decide_false,Bool.false_eq_true,if_false]
    exact ih _ _ ha (by omega) (by omega) (by omega)
  ·have d:decide ((a:Int)<(b:Int))=false:=by simp; omega
   have hak:a=k:=by omega
   subst hak
   simp only [d,Bool.false_eq_true,if_false]
   by_cases BS:a<l.length
   ·have d2:decide ((a:Int)<(l.length:Int))=true:=by simp; exact BS
    simp only [d2,if_true,kj BS,Option.bind_some,hf _ (List.getElem_mem BS),List.getElem?_eq_getElem BS]
   ·have d2:decide ((a:Int)<(l.length:Int))=false:=by simp; omega
    simp only [d2,Bool.false_eq_true,if_false,Option.bind_some,List.getElem?_eq_none (show l.length≤a by omega)]
theorem wZ {l:List ay} (hs:gG l) (c:Int):dU l c=if (match l[nH l c]? with | some y=>nv y.ID c == 0 | .none=>false)=true then some (nH l c) else .none:=by
 have h:=tC hs c
 have hk:=ow l c
 generalize nH l c=k at h hk
 by_cases BU:k<l.length
 ·rw [List.getElem?_eq_getElem BU]
  simp only [beq_iff_eq,j0]
  split
  ·rename_i hc
   unfold dU
   rw [List.findIdx?_eq_some_iff_getElem]
   refine ⟨BU,by simpa using hc,fun j hj=>?_⟩
   have:=(h j (by omega)).1 hj
   simp; omega
  ·rename_i hc
   unfold dU
   rw [List.findIdx?_eq_none_iff]
   intro y hy
   obtain ⟨q,hq,rfl⟩:=List.getElem_of_mem hy
   have h2:=h q hq
   rcases Nat.lt_trichotomy q k with SL | rfl | SL
   ·have:=h2.1 SL; simp; omega
   ·simpa using hc
   ·have h3:=List.pairwise_iff_getElem.1 hs k q BU hq SL
    have h4:=h k BU
    simp; omega
 ·rw [List.getElem?_eq_none (by omega)]
  simp only [Bool.false_eq_true,if_false]
  unfold dU
  rw [List.findIdx?_eq_none_iff]
  intro y hy
  obtain ⟨q,hq,rfl⟩:=List.getElem_of_mem hy
  have:=(h q hq).1 (by omega)
  simp; omega
theorem CY {l:List ay} (hs:gG l) {c:Int} {j:Nat} (h:dU l c=some j):j=nH l c:=by
 rw [wZ hs] at h
 by_cases hc:(match l[nH l c]? with | some y=>nv y.ID c == 0 | .none=>false)=true
 ·rw [if_pos hc] at h; exact (Option.some.inj h).symm
 ·rw [if_neg hc] at h; cases h
theorem gq {l:List ay} {c:Int} {j:Nat} (h:dU l c=some j):∃ hj:j<l.length,l[j].ID=c:=by
 unfold dU at h
 rw [List.findIdx?_eq_some_iff_getElem] at h
 exact ⟨h.1,by simpa using h.2.1⟩
theorem Z4 {F:Nat} {l:List ay} {c:Int} (hs:gG l) (hb:l.length<1000000) (MD:l.length<F) :
  U5 F l c (fun a0 a1=>uK a0 a1)=some ((nH l c:Int),(dU l c).isSome):=by
 have h1:∀ y ∈ l,uK y c=some (nv y.ID c):=fun y _=>by simp [uK,ou]
 have hl:=xY (l:=l) (x:=c) (p2:=fun a0 a1=>uK a0 a1) (f:=fun y=>nv y.ID c) hb (ow l c) h1 (fun q hq=>by rw [tC hs c q hq,pZ]) F 0 l.length (by omega) (ow l c) (by omega) (by omega)
 unfold U5
 rw [show (0:Int)=((0:Nat):Int) from rfl,hl,wZ hs]
 congr 2
 cases hc:(match l[nH l c]? with | some y=>nv y.ID c == 0 | .none=>false) <;> simp
end Go.Sh
namespace Go.Sh
open Go.L
structure nE (r:ay):Prop where
 n1:1≤r.ah.length
 n8:r.ah.length≤8
 ap:r.au.length=r.ah.length
 us:r.Uses.length≤300
 vs:∀ (i:Nat) x,r.ah[i]?=some x→iD x=0∧x.ID=r.ID∧x.Version=(i:Int)+1
 uv:∀ u ∈ r.Uses,1≤u.Version∧u.Version≤r.ah.length
structure hY (l:List ay):Prop where
 len:l.length≤40
 sort:gG l
 ok:∀ r ∈ l,nE r
def qU (e:ba) (r:ay):Prop:=e.Ref.Version<1 ∨ e.Ref.Version > r.ah.length
instance (e:ba) (r:ay):Decidable (qU e r):=by unfold qU; infer_instance
def vH (e:ba) (r:ay):Bool:=r.au.getD (e.Ref.Version - 1).toNat false
def kb (r:ay) (e:ba):Int × ay :=
 if e.Kind=2 then (if r.ao=true ∨ e.Item.Version ≠ (r.ah.length:Int)+1 then (8,r) else (0,⟨r.ID,r.ah++[e.Item],r.au++[false],r.Uses,r.ao⟩))
 else if e.Kind=3 then (if qU e r then (4,r) else if r.ao=true then (8,r) else if vH e r=true then (5,r) else (0,⟨r.ID,r.ah,r.au.set (e.Ref.Version - 1).toNat true,r.Uses,r.ao⟩))
 else if e.Kind=4 then (if qU e r then (4,r) else if r.ao=true ∨ vH e r=false then (8,r) else if r.Uses.any (fun u=>u.Form == e.Form)=true then (5,r) else if 300≤r.Uses.length then (3,r) else (0,⟨r.ID,r.ah,r.au,r.Uses++[⟨e.Ref.Version,e.Form,e.ak.Time⟩],r.ao⟩))
 else (if r.ao=decide (e.Kind=5) then (8,r) else (0,⟨r.ID,r.ah,r.au,r.Uses,decide (e.Kind=5)⟩))
def NN (e:ba):Int:=if e.Kind=2 then e.Item.ID else e.Ref.ID
def Px (l:List ay) (e:ba):List ay:=l.take (nH l e.Item.ID)++[⟨e.Item.ID,[e.Item],[false],[],false⟩]++l.drop (nH l e.Item.ID)
def nI (l:List ay) (e:ba):Int × List ay :=
 if iD e.Item ≠ 0 then (iD e.Item,l) else if e.Item.Version ≠ 1 then (8,l) else if (dU l e.Item.ID).isSome=true then (5,l) else if 40≤l.length then (3,l) else (0,Px l e)
def nJ (l:List ay) (e:ba):Int × List ay :=
 match dU l (NN e) with
 | .none=>(4,l)
 | some k=>match l[k]? with
  | .none=>(4,l)
  | some r=>if (kb r e).1=0 then (0,l.set k (kb r e).2) else ((kb r e).1,l)
def dO (l:List ay) (e:ba):Int × List ay :=
 if e.Kind=1 then nI l e
 else if e.Kind=2 then (if iD e.Item ≠ 0 then (iD e.Item,l) else nJ l e)
 else if e.Kind=3 ∨ e.Kind=4 ∨ e.Kind=5 ∨ e.Kind=6 then nJ l e
 else (2,l)
theorem Et {F:Nat} {l:List ay} {c:Int} (h:hY l) (hF:400<F):xz F ⟨l⟩ c=some ((nH l c:Int),(dU l c).isSome):=by
 unfold xz
 rw [Z4 h.sort (by have:=h.len; omega) (by have:=h.len; omega)]; rfl
theorem uO {F:Nat} {l:List ay} {c:Int} (h:hY l) (hF:400<F):uM F ⟨l⟩ c=some ((dU l c).map Int.ofNat):=by
 unfold uM
 rw [Et h hF]
 simp only [Option.bind_some]
 cases hp:dU l c with
 | none=>simp
 | some j =>
  obtain ⟨ny,_⟩:=gq hp
  simp only [Option.isSome_some,Bool.not_true,Bool.false_eq_true,if_false]
  rw [← CY h.sort hp,kj ny]
  rfl
theorem xR {F:Nat} {l:List ay} {e:ba} (h:hY l) (hF:400<F):xv F ⟨l⟩ e.Ref=some (match dU l e.Ref.ID with | .none=>.none | some j=>match l[j]? with | .none=>.none | some r=>if qU e r then .none else some (j:Int)):=by
 unfold xv
 rw [uO h hF]
 simp only [Option.bind_some]
 cases hp:dU l e.Ref.ID with
 | none=>rfl
 | some j =>
  obtain ⟨ny,_⟩:=gq hp
  simp only [Option.map_some,qn,List.getElem?_eq_getElem ny]
  rw [show Int.ofNat j=(j:Int) from rfl,kj ny]
  simp only [Option.bind_some,qU,Bool.or_eq_true,decide_eq_true_eq]
  split
  ·rename_i hh; simp only [hh,if_true]
  ·rename_i hh; simp only [hh,if_false]
theorem D3 {F:Nat} {l:List ay} {e:ba} (h:hY l) (hF:400<F):xy F ⟨l⟩ e=some ((nI l e).1,⟨(nI l e).2⟩):=by
 unfold xy nI
 rw [kI (by omega),Et h hF]
 simp only [Option.bind_some]
 by_cases h1:iD e.Item=0
 ·have Xv:=(qX (F:=F) (by omega) h1).1
  simp only [h1,bne_self_eq_false,Bool.false_eq_true,if_false,ne_eq,not_true_eq_false]
  by_cases h2:e.Item.Version=1
  ·simp only [h2,bne_self_eq_false,Bool.false_eq_true,if_false,not_true_eq_false]
   by_cases h3:(dU l e.Item.ID).isSome=true
   ·simp only [h3,if_true]
   ·simp only [h3,if_false,Bool.false_eq_true]
    by_cases h4:40≤l.length
    ·have d:decide ((l.length:Int) ≥ 40)=true:=by simp; omega
     simp only [d,h4,if_true]
    ·have d:decide ((l.length:Int) ≥ 40)=false:=by simp; omega
     simp only [d,h4,if_false,Bool.false_eq_true,ju Xv,Option.bind_some]
     unfold LI
     have hc:=ow l e.Item.ID
     rw [if_pos (by have:=h.len; constructor <;> omega)]
     rfl
  ·have d:(e.Item.Version != 1)=true:=by simp [h2]
   simp only [d,h2,if_true,not_false_eq_true]
 ·have d:(iD e.Item != 0)=true:=by simp [h1]
  simp only [d,h1,if_true,ne_eq,not_false_eq_true]
theorem Bw {F:Nat} {l:List ay} {e:ba} (h:hY l) (hF:400<F) (hk:e.Kind=2):xw F ⟨l⟩ e=some ((dO l e).1,⟨(dO l e).2⟩):=by
 unfold xw dO
 rw [kI (by omega),uO h hF]
 simp only [Option.bind_some,hk,show ¬ ((2:Int)=1) by omega,if_false,if_true]
 by_cases h1:iD e.Item=0
 ·have Xv:=(qX (F:=F) (by omega) h1).1
  simp only [h1,bne_self_eq_false,Bool.false_eq_true,if_false,ne_eq,not_true_eq_false]
  unfold nJ
  simp only [NN,hk,if_true]
  cases hp:dU l e.Item.ID with
  | none=>rfl
  | some j =>
   obtain ⟨ny,_⟩:=gq hp
   have hr:=h.ok l[j] (List.getElem_mem ny)
   simp only [Option.map_some,qn,List.getElem?_eq_getElem ny]
   rw [show Int.ofNat j=(j:Int) from rfl,kj ny]
   simp only [Option.bind_some,kb,hk,if_true]
   have hw:i64 ((l[j].ah.length:Int)+1)=(l[j].ah.length:Int)+1:=by have:=hr.n8; rw [cL (by omega) (by omega)]
   rw [hw]
   by_cases h2:l[j].ao=true ∨ e.Item.Version ≠ (l[j].ah.length:Int)+1
   ·have d:(l[j].ao || e.Item.Version != (l[j].ah.length:Int)+1)=true:=by simpa using h2
    simp only [d,if_true,h2,show ¬ ((8:Int)=0) by omega,if_false]
   ·have d:(l[j].ao || e.Item.Version != (l[j].ah.length:Int)+1)=false:=by simpa using h2
    simp only [d,Bool.false_eq_true,if_false,h2,ju Xv,Option.bind_some]
    rw [fh (by simp; have:=hr.n8; omega),Option.bind_some,fh (by simp; have:=hr.n8; have:=hr.ap; omega)]
    simp
 ·have d:(iD e.Item != 0)=true:=by simp [h1]
  simp only [d,h1,if_true,ne_eq,not_false_eq_true]
theorem Mw {e:ba} {r:ay} (hr:nE r) (h:¬ qU e r):idx r.au (i64 (e.Ref.Version - 1))=some (vH e r)∧i64 (e.Ref.Version - 1)=e.Ref.Version - 1:=by
 unfold qU at h
 have:=hr.n8
 have ha:=hr.ap
 have hw:i64 (e.Ref.Version - 1)=e.Ref.Version - 1:=by rw [cL (by omega) (by omega)]
 refine ⟨?_,hw⟩
 rw [hw]
 unfold vH
 rw [kl]
 refine ⟨by omega,?_⟩
 have:(e.Ref.Version - 1).toNat<r.au.length:=by omega
 rw [List.getD_eq_getElem?_getD,List.getElem?_eq_getElem this]; rfl
theorem wm {F:Nat} {l:List ay} {e:ba} (h:hY l) (hF:400<F) (hk:e.Kind=3):xu F ⟨l⟩ e=some ((dO l e).1,⟨(dO l e).2⟩):=by
 unfold xu dO nJ
 rw [xR h hF]
 simp only [Option.bind_some,hk,NN,show ¬ ((3:Int)=1) by omega,show ¬ ((3:Int)=2) by omega,if_false,true_or,if_true]
 cases hp:dU l e.Ref.ID with
 | none=>rfl
 | some j =>
  obtain ⟨ny,_⟩:=gq hp
  have hr:=h.ok l[j] (List.getElem_mem ny)
  simp only [List.getElem?_eq_getElem ny,kb,hk,show ¬ ((3:Int)=2) by omega,if_false,if_true]
  by_cases hb:qU e l[j]
  ·simp only [hb,if_true,qn,show ¬ ((4:Int)=0) by omega,if_false]
  ·obtain ⟨q1,q2⟩:=Mw hr hb
   simp only [hb,if_false,qn,kj ny,Option.bind_some]
   by_cases hw:l[j].ao=true
   ·simp only [hw,if_true,show ¬ ((8:Int)=0) by omega,if_false]
   ·simp only [hw,if_false,q1,Option.bind_some,Bool.false_eq_true]
    by_cases ha:vH e l[j]=true
    ·simp only [ha,if_true,show ¬ ((5:Int)=0) by omega,if_false]
    ·simp only [ha,if_false,Bool.false_eq_true,q2,if_true]
     rfl
theorem KF {F:Nat} {l:List bI} {p:bI→Option Bool} (f:bI→Bool) (hp:∀ u ∈ l,p u=some (f u)) (hb:l.length<1000000) (hF:l.length<F):Gj F l p=some (l.any f):=by
 unfold Gj Eu
 rw [gx (a:=l) (L:=C0 l p) (fun i x=>if f x=true then some (i:Int) else .none) (-1) hb (fun n i x hx hi=>?_) (fun n=>?_) hF]
 ·simp only [Option.bind_some]
  congr 1
  have key:∀ (l:List bI) (i:Nat),decide (scan (fun i x=>if f x=true then some (i:Int) else .none) (-1:Int) i l ≥ 0)=l.any f:=by
   intro l
   induction l with
   | nil=>intro i; rfl
   | cons x l ih =>
    intro i
    unfold scan
    rw [List.any_cons]
    cases hf:f x with
    | true=>simp
    | false=>simp only [Bool.false_eq_true,if_false,Bool.false_or]; exact ih (i+1)
  exact key l 0
 ·simp only [C0,JB,fA hx,if_true,ep hx,Option.bind_some,fm hi,hp x (List.mem_of_getElem? hx)]
  cases f x <;> simp
 ·simp only [C0,JB,fz,Bool.false_eq_true,if_false]
theorem N0 {F:Nat} {l:List ay} {e:ba} (h:hY l) (hF:400<F) (hk:e.Kind=4):lD F ⟨l⟩ e=some ((dO l e).1,⟨(dO l e).2⟩):=by
 unfold lD dO nJ
 rw [xR h hF]
 simp only [Option.bind_some,hk,NN,show ¬ ((4:Int)=1) by omega,show ¬ ((4:Int)=2) by omega,show ¬ ((4:Int)=3) by omega,if_false,true_or,or_true,if_true]
 cases hp:dU l e.Ref.ID with
 | none=>rfl
 | some j =>
  obtain ⟨ny,_⟩:=gq hp
  have hr:=h.ok l[j] (List.getElem_mem ny)
  simp only [List.getElem?_eq_getElem ny,kb,hk,show ¬ ((4:Int)=2) by omega,show ¬ ((4:Int)=3) by omega,if_false,if_true]
  by_cases hb:qU e l[j]
  ·simp only [hb,if_true,qn,show ¬ ((4:Int)=0) by omega,if_false]
  ·obtain ⟨q1,q2⟩:=Mw hr hb
   simp only [hb,if_false,qn,kj ny,Option.bind_some,q1,L8]
   have hu:=hr.us
   by_cases hw:l[j].ao=true ∨ vH e l[j]=false
   ·have d:(l[j].ao || !(vH e l[j]))=true:=by simpa using hw
    simp only [d,hw,if_true,show ¬ ((8:Int)=0) by omega,if_false]
   ·have d:(l[j].ao || !(vH e l[j]))=false:=by simpa using hw
    simp only [d,hw,if_false,Bool.false_eq_true]
    rw [KF (p:=fun a0=>ET a0 e) (fun u=>u.Form == e.Form) (fun u _=>rfl) (by omega) (by omega)]
    simp only [Option.bind_some]
    by_cases ha:(l[j].Uses.any fun u=>u.Form == e.Form)=true
    ·simp only [ha,if_true,show ¬ ((5:Int)=0) by omega,if_false]
    ·simp only [ha,if_false,Bool.false_eq_true]
     by_cases h3:300≤l[j].Uses.length
     ·have d3:decide ((l[j].Uses.length:Int) ≥ 300)=true:=by simp; omega
      simp only [d3,h3,if_true,show ¬ ((3:Int)=0) by omega,if_false]
     ·have d3:decide ((l[j].Uses.length:Int) ≥ 300)=false:=by simp; omega
      simp only [d3,h3,if_false,Bool.false_eq_true,if_true]
      rw [fh (by simp; omega)]
      rfl
theorem mV {F:Nat} {l:List ay} {e:ba} (h:hY l) (hF:400<F) (hk:e.Kind=5 ∨ e.Kind=6):Bj F ⟨l⟩ e (decide (e.Kind=5))=some ((dO l e).1,⟨(dO l e).2⟩):=by
 have n1:¬ e.Kind=1:=by omega
 have n2:¬ e.Kind=2:=by omega
 have n3:¬ e.Kind=3:=by omega
 have n4:¬ e.Kind=4:=by omega
 unfold Bj dO nJ
 rw [uO h hF]
 simp only [Option.bind_some,n1,n2,n3,n4,hk,NN,if_false,false_or,if_true]
 cases hp:dU l e.Ref.ID with
 | none=>rfl
 | some j =>
  obtain ⟨ny,_⟩:=gq hp
  simp only [Option.map_some,List.getElem?_eq_getElem ny,kb,n2,n3,n4,if_false,qn]
  rw [show Int.ofNat j=(j:Int) from rfl,kj ny]
  simp only [Option.bind_some,beq_iff_eq]
  by_cases hw:l[j].ao=decide (e.Kind=5)
  ·simp only [hw,if_true,show ¬ ((8:Int)=0) by omega,if_false]
  ·simp only [hw,if_false,if_true]
   rfl
theorem GD {l:List ay} (hs:gG l) {k:Nat} (hk:k<l.length) {b:ay} (hb:b.ID=l[k].ID):gG (l.set k b):=by
 unfold gG at *
 rw [List.pairwise_iff_getElem] at hs ⊢
 intro i j hi hj tW
 rw [List.getElem_set,List.getElem_set]
 have fD:i<l.length:=by simpa using hi
 have GW:j<l.length:=by simpa using hj
 split
 ·rename_i h1
  split
  ·omega
  ·subst h1; rw [hb]; exact hs _ _ fD GW tW
 ·split
  ·rename_i h1 h2; subst h2; rw [hb]; exact hs _ _ fD GW tW
  ·exact hs _ _ fD GW tW
theorem rV {l:List ay} {n:Int} (h:dU l n=.none):∀ x ∈ l,x.ID ≠ n:=fun x hx hn=>by
 unfold dU at h
 rw [List.findIdx?_eq_none_iff] at h
 have:=h x hx
 simp [hn] at this
theorem GC {l:List ay} (hs:gG l) {n:Int} (hn:dU l n=.none) {b:ay} (hb:b.ID=n):gG (l.take (nH l n)++[b]++l.drop (nH l n)):=by
 have hc:=tC hs n
 have hk:=ow l n
 have eE:=rV hn
 generalize nH l n=k at hc hk
 have h1:∀ x ∈ l.take k,x.ID<n:=fun x hx=>by
  obtain ⟨q,hq,rfl⟩:=List.getElem_of_mem hx
  simp only [List.length_take] at hq
  rw [List.getElem_take]
  exact (hc q (by omega)).1 (by omega)
 have h2:∀ x ∈ l.drop k,n<x.ID:=fun x hx=>by
  obtain ⟨q,hq,rfl⟩:=List.getElem_of_mem hx
  simp only [List.length_drop] at hq
  rw [List.getElem_drop]
  have:=(hc (k+q) (by omega))
  have h3:=eE _ (List.getElem_mem (show k+q<l.length by omega))
  omega
 unfold gG at *
 rw [List.append_assoc,List.pairwise_append]
 refine ⟨hs.sublist (List.take_sublist _ _),?_,?_⟩
 ·rw [List.singleton_append,List.pairwise_cons]
  exact ⟨fun x hx=>by rw [hb]; exact h2 x hx,hs.sublist (List.drop_sublist _ _)⟩
 ·intro x hx y hy
  rw [List.singleton_append] at hy
  rcases List.mem_cons.1 hy with rfl | hy
  ·rw [hb]; exact h1 x hx
  ·have:=h1 x hx; have:=h2 y hy; omega
theorem Hv {r:ay} {e:ba}:(kb r e).2.ID=r.ID:=by
 unfold kb
 repeat' split
 all_goals rfl
theorem Hw {r:ay} {e:ba} (h:nE r) (hc:e.Kind=2→iD e.Item=0∧e.Item.ID=r.ID):nE (kb r e).2:=by
 unfold kb
 split
 ·rename_i hk
  obtain ⟨c1,c2⟩:=hc hk
  split
  ·exact h
  ·rename_i h2
   simp only [not_or,ne_eq,Decidable.not_not] at h2
   have c3:=(qX (F:=100) (by omega) c1).2
   refine ⟨by simp,by simp; omega,by simp [h.ap],h.us,fun i x hx=>?_,fun u hu=>?_⟩
   ·simp only [List.getElem?_append] at hx
    split at hx
    ·exact h.vs i x hx
    ·rename_i hi
     rw [List.getElem?_singleton] at hx
     split at hx
     ·cases hx; exact ⟨c1,c2,by omega⟩
     ·cases hx
   ·have:=h.uv u hu
    simp only [List.length_append,List.length_singleton]
    omega
 ·split
  ·split
   ·exact h
   ·split
    ·exact h
    ·split
     ·exact h
     ·exact ⟨h.n1,h.n8,by simp [h.ap],h.us,h.vs,h.uv⟩
  ·split
   ·split
    ·exact h
    ·rename_i hb
     split
     ·exact h
     ·split
      ·exact h
      ·split
       ·exact h
       ·refine ⟨h.n1,h.n8,h.ap,by simp; omega,h.vs,fun u hu=>?_⟩
        rcases List.mem_append.1 hu with hu | hu
        ·exact h.uv u hu
        ·rw [List.mem_singleton] at hu
         subst hu
         unfold qU at hb
         simp only
         omega
   ·split
    ·exact h
    ·exact ⟨h.n1,h.n8,h.ap,h.us,h.vs,h.uv⟩
theorem wx {l:List ay} {e:ba} (h:hY l) (hc:e.Kind=2→iD e.Item=0):hY (nJ l e).2:=by
 unfold nJ
 cases hp:dU l (NN e) with
 | none=>exact h
 | some k =>
  obtain ⟨hk,cj⟩:=gq hp
  simp only [List.getElem?_eq_getElem hk]
  split
  ·refine ⟨by simpa using h.len,GD h.sort hk Hv,fun r hr=>?_⟩
   rcases List.mem_or_eq_of_mem_set hr with hr | rfl
   ·exact h.ok r hr
   ·refine Hw (h.ok _ (List.getElem_mem hk)) fun h2=>⟨hc h2,?_⟩
    rw [cj]; simp [NN,h2]
  ·exact h
theorem rD {l:List ay} {e:ba} (h:hY l):hY (dO l e).2:=by
 unfold dO
 split
 ·unfold nI
  split
  ·exact h
  ·rename_i h1
   split
   ·exact h
   ·rename_i h2
    split
    ·exact h
    ·rename_i h3
     split
     ·exact h
     ·rename_i h4
      simp only [ne_eq,Decidable.not_not] at h1 h2
      have hp:dU l e.Item.ID=.none:=by simpa using h3
      unfold Px
      refine ⟨by simp; have:=ow l e.Item.ID; omega,GC h.sort hp rfl,fun r hr=>?_⟩
      simp only [List.mem_append,List.mem_singleton] at hr
      rcases hr with (hr | rfl) | hr
      ·exact h.ok r (List.mem_of_mem_take hr)
      ·refine ⟨by simp,by simp,by simp,by simp,fun i x hx=>?_,by simp⟩
       simp only [List.getElem?_singleton] at hx
       split at hx
       ·cases hx; rename_i hi; exact ⟨h1,rfl,by omega⟩
       ·cases hx
      ·exact h.ok r (List.mem_of_mem_drop hr)
 ·split
  ·split
   ·exact h
   ·rename_i h1; exact wx h fun _=>by simpa using h1
  ·rename_i h2
   split
   ·exact wx h fun hk=>absurd hk h2
   ·exact h
theorem vo:hY []:=⟨by simp,by simp [gG],by simp⟩
end Go.Sh
namespace Go.Sh
open Go.L
def Mp (r:ay) (i:Nat) (x:ab):Bool:=decide (iD x=0) && (decide (x.ID=r.ID) && decide (x.Version=(i:Int)+1))
def KC (r:ay) (u:bI):Bool:=decide (1≤u.Version) && decide (u.Version≤(r.ah.length:Int))
def Dr (r:ay):Bool:=!(decide ((r.ah.length:Int)<1) || (decide ((r.ah.length:Int) > 8) || (((r.au.length:Int) != (r.ah.length:Int)) || decide ((r.Uses.length:Int) > 300)))) &&
 scan (fun i x=>if Mp r i x=true then .none else some false) (r.Uses.all (KC r)) 0 r.ah
theorem wi {F:Nat} {r:ay} (hF:400<F):xg F r=some (Dr r):=by
 unfold xg Dr
 cases h1:(decide ((r.ah.length:Int)<1) || (decide ((r.ah.length:Int) > 8) || (((r.au.length:Int) != (r.ah.length:Int)) || decide ((r.Uses.length:Int) > 300)))) with
 | true=>simp
 | false =>
  simp only [Bool.or_eq_false_iff,decide_eq_false_iff_not] at h1
  simp only [Bool.false_eq_true,if_false,Bool.not_false,Bool.true_and]
  refine gx _ _ (by omega) (fun n i x hx hi=>?_) (fun n=>?_) (by omega)
  ·have hi8:i<8:=by have:=(List.getElem?_eq_some_iff.1 hx).1; omega
   have hw:i64 ((i:Int)+1)=(i:Int)+1:=by rw [cL (by omega) (by omega)]
   simp only [Gt,J8,fA hx,if_true,ep hx,Option.bind_some,kI (show 50<F by omega),L8,hw]
   have e:Mp r i x=!((iD x != 0) || (x.ID != r.ID || x.Version != (i:Int)+1)):=by
    unfold Mp
    refine Y0 ?_
    simp only [Bool.and_eq_true,decide_eq_true_eq,Bool.not_eq_true',Bool.or_eq_false_iff,bne_eq_false_iff_eq]
   rw [e]
   cases ((iD x != 0) || (x.ID != r.ID || x.Version != (i:Int)+1)) <;> simp
  ·simp only [Gt,J8,fz,Bool.false_eq_true,if_false]
   refine oo (L:=Da r) (KC r) (by omega) (fun n i x hx hi=>?_) (fun n=>?_) (by omega)
   ·simp only [Da,J9,fA hx,if_true,ep hx,Option.bind_some,fm hi]
    have e:KC r x=!(decide (x.Version<1) || decide (x.Version > (r.ah.length:Int))):=by
     unfold KC
     refine Y0 ?_
     simp only [Bool.and_eq_true,decide_eq_true_eq,Bool.not_eq_true',Bool.or_eq_false_iff,decide_eq_false_iff_not]
     omega
    rw [e]
    cases (decide (x.Version<1) || decide (x.Version > (r.ah.length:Int))) <;> simp
   ·simp only [Da,J9,fz,Bool.false_eq_true,if_false]
theorem Kb {r:ay}:Dr r=true ↔ nE r:=by
 unfold Dr
 rw [Bool.and_eq_true,rB]
 simp only [Bool.not_eq_true',Bool.or_eq_false_iff,decide_eq_false_iff_not,bne_eq_false_iff_eq,List.all_eq_true,KC,Mp,Bool.and_eq_true,decide_eq_true_eq,Nat.zero_add]
 constructor
 ·rintro ⟨⟨a,b,c,d⟩,e,f⟩
  exact ⟨by omega,by omega,by omega,by omega,fun i x hx=>f i x hx,fun u hu=>e u hu⟩
 ·intro h
  have:=h.n1; have:=h.n8; have:=h.ap; have:=h.us
  exact ⟨⟨by omega,by omega,by omega,by omega⟩,fun u hu=>h.uv u hu,fun i x hx=>h.vs i x hx⟩
def Q1 (l:List ay) (i:Nat) (x:ay):Bool:=!(decide (0<i) && decide ((l.getD (i - 1) default).ID ≥ x.ID)) && Dr x
def ll (l:List ay):Bool:=decide (l.length≤40) && scan (fun i x=>if Q1 l i x=true then .none else some false) true 0 l
theorem T1 {l:List ay} {i:Nat} {x:ay} (hi:i<1000000) (hx:l[i]?=some x) (h0:0<i):idx l (i64 ((i:Int) - 1))=some (l.getD (i - 1) default):=by
 have h1:=(List.getElem?_eq_some_iff.1 hx).1
 rw [cL (by omega) (by omega),show (i:Int) - 1=((i - 1:Nat):Int) by omega,oD]
 rw [List.getD_eq_getElem?_getD,List.getElem?_eq_getElem (show i - 1<l.length by omega)]; rfl
theorem BO {F:Nat} {l:List ay} (hF:400<F):xB F ⟨l⟩=some (ll l):=by
 unfold xB ll
 by_cases h:l.length≤40
 ·have d:decide ((l.length:Int) > 40)=false:=by simp; omega
  simp only [d,Bool.false_eq_true,if_false,h,decide_true,Bool.true_and]
  refine gx _ _ (by omega) (fun n i x hx hi=>?_) (fun n=>?_) (by omega)
  ·simp only [xp,A4,fA hx,if_true,ep hx,Option.bind_some,fm hi,wi hF]
   unfold Q1
   by_cases h0:0<i
   ·have d:decide ((i:Int) > 0)=true:=by simp; exact h0
    simp only [d,if_true,T1 hi hx h0,Option.bind_some,L8,h0,decide_true,Bool.true_and]
    cases decide ((l.getD (i - 1) default).ID ≥ x.ID) <;> cases Dr x <;> simp
   ·have d:decide ((i:Int) > 0)=false:=by simp; omega
    simp only [d,Bool.false_eq_true,if_false,Option.bind_some,h0,decide_false,Bool.false_and,Bool.not_false,Bool.true_and]
    cases Dr x <;> simp
  ·simp only [xp,A4,fz,Bool.false_eq_true,if_false]
 ·have d:decide ((l.length:Int) > 40)=true:=by simp; omega
  simp [d,h]
theorem GB {l:List ay} (h:∀ (i:Nat) x,l[i]?=some x→0<i→(l.getD (i - 1) default).ID<x.ID):gG l:=by
 unfold gG
 rw [List.pairwise_iff_getElem]
 have key:∀ (d i:Nat) (hi:i<l.length) (hj:i+d+1<l.length),l[i].ID<l[i+d+1].ID:=by
  intro d
  induction d with
  | zero =>
   intro i hi hj
   have:=h (i+1) l[i+1] (by simp) (by omega)
   simpa [hi] using this
  | succ d ih =>
   intro i hi hj
   have h1:=ih i hi (by omega)
   have:=h (i+(d+1)+1) l[i+(d+1)+1] (by simp) (by omega)
   rw [show i+(d+1)+1 - 1=i+d+1 by omega,List.getD_eq_getElem?_getD,List.getElem?_eq_getElem (show i+d+1<l.length by omega)] at this
   simp only [Option.getD_some] at this
   omega
 intro i j hi hj tW
 have:=key (j - i - 1) i hi (by omega)
 have e:i+(j - i - 1)+1=j:=by omega
 simpa only [e] using this
theorem im {l:List ay}:ll l=true ↔ hY l:=by
 unfold ll
 rw [Bool.and_eq_true,rB,decide_eq_true_eq]
 simp only [Q1,Bool.and_eq_true,Bool.not_eq_true',Bool.and_eq_false_iff,decide_eq_false_iff_not,Kb,Nat.zero_add,true_and]
 constructor
 ·rintro ⟨h1,h2⟩
  refine ⟨h1,GB fun i x hx h0=>?_,fun r hr=>?_⟩
  ·have:=(h2 i x hx).1; omega
  ·obtain ⟨i,hi⟩:=List.getElem?_of_mem hr
   exact (h2 i r hi).2
 ·intro h
  refine ⟨h.len,fun j x hx=>⟨?_,h.ok x (List.mem_of_getElem? hx)⟩⟩
  by_cases h0:0<j
  ·right
   obtain ⟨hj,rfl⟩:=List.getElem?_eq_some_iff.1 hx
   have:=List.pairwise_iff_getElem.1 h.sort (j - 1) j (by omega) hj (by omega)
   rw [List.getD_eq_getElem?_getD,List.getElem?_eq_getElem (show j - 1<l.length by omega)]
   simp only [Option.getD_some]; omega
  ·left; exact h0
structure Hl (F:Nat) (r:ay):Prop where
 vl:r.ah.length<1000000∧r.ah.length<F
 v:∀ x ∈ r.ah,Mt F x
 a:r.au.length<1000000∧r.au.length<F
 u:r.Uses.length<1000000∧r.Uses.length<F
theorem nE.sh {F:Nat} {r:ay} (h:nE r) (hF:400<F):Hl F r:=by
 have:=h.n8; have:=h.ap; have:=h.us
 refine ⟨by omega,fun x hx=>?_,by omega,by omega⟩
 obtain ⟨i,hi⟩:=List.getElem?_of_mem hx
 exact (qX (by omega) (h.vs i x hi).1).1
structure Cb (F:Nat) (l:List ay):Prop where
 l1:l.length<1000000
 l2:l.length<F
 r:∀ r ∈ l,Hl F r
theorem hY.sh {F:Nat} {l:List ay} (h:hY l) (hF:400<F):Cb F l :=
 ⟨by have:=h.len; omega,by have:=h.len; omega,fun r hr=>(h.ok r hr).sh hF⟩
theorem vJ {F:Nat} {r:ay} (h:Hl F r):AY F r=some r:=by
 unfold AY
 rw [k8 (by have:=h.vl.1; omega),Option.bind_some]
 have:=tH (a:=r.ah) (L:=C9 r) (z:=ab.mk 0 0 (ByteArray.mk #[]) [] []) (F:=F) id (fun l=>ay.mk r.ID l r.au r.Uses r.ao)
  (fun n i x l l' hx hl=>by
   have hi:i<1000000:=by have:=(List.getElem?_eq_some_iff.1 hx).1; have:=h.vl.1; omega
   simp only [C9,J7,fA hx,if_true,ep hx,Option.bind_some,ju (h.v x (List.mem_of_getElem? hx)),fm hi]
   rw [mj hl,Option.bind_some,oK hl]; rfl)
  (fun n l=>by
   simp only [C9,J7,fz,Bool.false_eq_true,if_false]
   rw [fh (by simp; have:=h.a.1; omega),Option.bind_some,fh (by simp; have:=h.u.1; omega)]
   rfl) h.vl.2
 rw [this]; simp
theorem zk {F:Nat} {l:List ay} (h:Cb F l):wb F ⟨l⟩=some ⟨l⟩:=by
 unfold wb
 rw [k8 (by have:=h.l1; simp; omega),Option.bind_some]
 have:=tH (a:=l) (L:=Dg F ⟨l⟩) (z:=ay.mk 0 [] [] [] false) (F:=F) id (fun l=>bx.mk l)
  (fun n i x q q' hx hl=>by
   have hi:i<1000000:=by have:=(List.getElem?_eq_some_iff.1 hx).1; have:=h.l1; omega
   simp only [Dg,As,fA hx,if_true,ep hx,Option.bind_some,vJ (h.r x (List.mem_of_getElem? hx)),fm hi]
   rw [mj hl,Option.bind_some,oK hl]; rfl)
  (fun n l=>by simp only [Dg,As,fz,Bool.false_eq_true,if_false]) h.l2
 rw [this]; simp
def tr (l:List ay) (e:ba):List ay × Int :=
 if ll l=true then (if (dO l e).1=0 then ((dO l e).2,0) else ([],(dO l e).1)) else ([],1)
theorem tt {l:List ay} {e:ba} (h:hY l):tr l e=if (dO l e).1=0 then ((dO l e).2,0) else ([],(dO l e).1):=by
 unfold tr; rw [if_pos (im.2 h)]
theorem K2 {F:Nat} {l:List ay} {e:ba} (hF:400<F):xx F ⟨l⟩ e=some (⟨(tr l e).1⟩,(tr l e).2):=by
 unfold xx
 rw [BO hF]
 simp only [Option.bind_some]
 cases hv:ll l with
 | false=>simp [tr,hv]
 | true =>
  have h:=im.1 hv
  rw [tt h]
  simp only [Bool.not_true,Bool.false_eq_true,if_false,zk (h.sh hF),Option.bind_some,beq_iff_eq]
  have fin:∀ c:Int × List ay,(if (c.1 != 0)=true then some ((bx.mk []),c.1) else some (bx.mk c.2,0))=some (bx.mk (if c.1=0 then (c.2,(0:Int)) else ([],c.1)).1,(if c.1=0 then (c.2,(0:Int)) else ([],c.1)).2):=fun c=>by
   by_cases h0:c.1=0 <;> simp [h0]
  by_cases h1:e.Kind=1
  ·have e1:dO l e=nI l e:=by unfold dO; rw [if_pos h1]
   simp only [h1,if_true,D3 h hF,Option.bind_some]
   rw [e1]; exact fin _
  ·by_cases h2:e.Kind=2
   ·simp only [h2,show ¬ ((2:Int)=1) by omega,if_false,if_true,Bw h hF h2,Option.bind_some]
    exact fin _
   ·by_cases h3:e.Kind=3
    ·simp only [h3,show ¬ ((3:Int)=1) by omega,show ¬ ((3:Int)=2) by omega,if_false,if_true,wm h hF h3,Option.bind_some]
     exact fin _
    ·by_cases h4:e.Kind=4
     ·simp only [h4,show ¬ ((4:Int)=1) by omega,show ¬ ((4:Int)=2) by omega,show ¬ ((4:Int)=3) by omega,if_false,if_true,N0 h hF h4,Option.bind_some]
      exact fin _
     ·by_cases h5:e.Kind=5
      ·have:=mV h hF (.inl h5)
       rw [show decide (e.Kind=5)=true by simp [h5]] at this
       simp only [h1,h2,h3,h4,h5,if_false,if_true,this,Option.bind_some,show ¬ ((5:Int)=1) by omega,show ¬ ((5:Int)=2) by omega,show ¬ ((5:Int)=3) by omega,show ¬ ((5:Int)=4) by omega]
       exact fin _
      ·by_cases h6:e.Kind=6
       ·have:=mV h hF (.inr h6)
        rw [show decide (e.Kind=5)=false by simp [h5]] at this
        simp only [h6,if_false,if_true,this,Option.bind_some,show ¬ ((6:Int)=1) by omega,show ¬ ((6:Int)=2) by omega,show ¬ ((6:Int)=3) by omega,show ¬ ((6:Int)=4) by omega,show ¬ ((6:Int)=5) by omega]
        exact fin _
       ·have e1:dO l e=(2,l):=by unfold dO; simp [h1,h2,h3,h4,h5,h6]
        simp only [h1,h2,h3,h4,h5,h6,if_false,e1]
        simp
def Pw (e:ba):vF:=⟨e.ak.Source,e.ak.Seq⟩
def jL:List ba→List ay→List fc→List ay × List fc
 | [],l,r=>(l,r)
 | e :: s,l,r=>jL s (dO l e).2 (if (dO l e).1=0 then r else r++[⟨Pw e,(dO l e).1⟩])
def pN (u:Int) (l:List ba):List ba:=l.takeWhile fun e=>decide (e.ak.Time≤u)
def jK (ev:List ba) (u:Int):List ay × List fc × Int :=
 let c:=ji (·.ak) ev
 if c.2 ≠ 0 then ([],[],c.2) else ((jL (pN u c.1) [] []).1,(jL (pN u c.1) [] []).2,0)
theorem FF {F:Nat} {u:Int} {c:List ba} {z:Int} (hF:400<F) (hb:c.length<1000000):∀ (s p:List ba) (n:Nat) (l:List ay) (r:List fc),c=p++s→s.length<n→hY l→r.length≤p.length→qp F u (c,z) n (p.length:Int) r l=some (⟨(jL (pN u s) l r).1⟩,(jL (pN u s) l r).2,0):=by
 intro s
 induction s with
 | nil=>intro p n l r hp hn hv hr; cases n with
  | zero=>omega
  | succ n =>
   have:c=p:=by simpa using hp
   subst this
   simp only [qp,A8,Int.lt_irrefl,decide_false,Bool.false_eq_true,if_false,pN,List.takeWhile_nil,jL]
 | cons e s ih=>intro p n l r hp hn hv hr; cases n with
  | zero=>omega
  | succ n =>
   have hlen:p.length<1000000:=by rw [hp] at hb; simp at hb; omega
   have d1:decide ((p.length:Int)<(c.length:Int))=true:=by rw [hp]; exact Ro p e s
   have i1:idx c (p.length:Int)=some e:=by rw [hp]; exact nV p e s
   simp only [qp,A8,d1,if_true,i1,Option.bind_some]
   by_cases hu:e.ak.Time≤u
   ·have d2 : decide (e.ak.Time > u) = false := by simp; omega
    have hw:pN u (e :: s)=e :: pN u s:=by unfold pN; rw [List.takeWhile_cons_of_pos (by simpa using hu)]
    have BV:(fc.mk (Pw e) 0)=(fc.mk (Pw e) 0):=rfl
    have fin:∀ c':Int × List ay,dO l e=c'→(if (c'.1 != 0)=true then (app r [fc.mk (vF.mk e.ak.Source e.ak.Seq) c'.1]).bind fun v=>qp F u (c,z) n (i64 ((p.length:Int)+1)) v c'.2 else qp F u (c,z) n (i64 ((p.length:Int)+1)) r c'.2)
      = some (⟨(jL (pN u (e :: s)) l r).1⟩,(jL (pN u (e :: s)) l r).2,0):=fun c' yV=>by
     rw [hw]
     simp only [jL,yV,VU p e (show p.length<1000000000 by omega)]
     have sS:hY c'.2:=by rw [← yV]; exact rD hv
     by_cases h0:c'.1=0
     ·simp only [h0,bne_self_eq_false,Bool.false_eq_true,if_false,if_true]
      exact ih (p++[e]) n _ r (by rw [hp]; simp) (by simpa using hn) sS (by simp; omega)
     ·have WA:(c'.1 != 0)=true:=by simp [h0]
      simp only [h0,WA,if_true,if_false]
      rw [fh (by simp; omega),Option.bind_some]
      exact ih (p++[e]) n _ _ (by rw [hp]; simp) (by simpa using hn) sS (by simp; omega)
    simp only [d2,Bool.false_eq_true,if_false,beq_iff_eq]
    by_cases h1:e.Kind=1
    ·have e1:dO l e=nI l e:=by unfold dO; rw [if_pos h1]
     simp only [h1,if_true,D3 hv hF,Option.bind_some]
     exact fin _ e1
    ·by_cases h2:e.Kind=2
     ·simp only [h2,show ¬ ((2:Int)=1) by omega,if_false,if_true,Bw hv hF h2,Option.bind_some]
      exact fin _ rfl
     ·by_cases h3:e.Kind=3
      ·simp only [h3,show ¬ ((3:Int)=1) by omega,show ¬ ((3:Int)=2) by omega,if_false,if_true,wm hv hF h3,Option.bind_some]
       exact fin _ rfl
      ·by_cases h4:e.Kind=4
       ·simp only [h4,show ¬ ((4:Int)=1) by omega,show ¬ ((4:Int)=2) by omega,show ¬ ((4:Int)=3) by omega,if_false,if_true,N0 hv hF h4,Option.bind_some]
        exact fin _ rfl
       ·by_cases h5:e.Kind=5
        ·have:=mV hv hF (.inl h5)
         rw [show decide (e.Kind=5)=true by simp [h5]] at this
         simp only [h5,if_false,if_true,this,Option.bind_some,show ¬ ((5:Int)=1) by omega,show ¬ ((5:Int)=2) by omega,show ¬ ((5:Int)=3) by omega,show ¬ ((5:Int)=4) by omega]
         exact fin _ rfl
        ·by_cases h6:e.Kind=6
         ·have:=mV hv hF (.inr h6)
          rw [show decide (e.Kind=5)=false by simp [h5]] at this
          simp only [h6,if_false,if_true,this,Option.bind_some,show ¬ ((6:Int)=1) by omega,show ¬ ((6:Int)=2) by omega,show ¬ ((6:Int)=3) by omega,show ¬ ((6:Int)=4) by omega,show ¬ ((6:Int)=5) by omega]
          exact fin _ rfl
         ·have e1:dO l e=(2,l):=by unfold dO; simp [h1,h2,h3,h4,h5,h6]
          simp only [h1,h2,h3,h4,h5,h6,if_false]
          exact fin _ e1
   ·have d2:decide (e.ak.Time > u)=true:=by simp; omega
    have hw:pN u (e :: s)=[]:=by unfold pN; rw [List.takeWhile_cons_of_neg (by simpa using hu)]
    simp [d2,hw,jL]
theorem zh {E:Type} [DecidableEq E] {st:E→bE} {l:List E} {e:E} (h:e ∈ (ji st l).1):e ∈ l:=by
 unfold ji at h
 split at h
 ·simp at h
 ·unfold GR ks at h
  rw [List.mem_filterMap] at h
  obtain ⟨i,_,hi⟩:=h
  exact List.mem_of_getElem? hi
theorem Ch {E:Type} [DecidableEq E] (st:E→bE) (l:List E):(ji st l).1.length≤l.length:=by
 unfold ji
 split
 ·simp
 ·exact HC st l
theorem HF {F:Nat} (hF:400<F) {ev:List ba} {u:Int} (hc:ze F ev) (hb:ev.length<1000000) (hFe:ev.length<F):iq F ev u=some (⟨(jK ev u).1⟩,(jK ev u).2.1,(jK ev u).2.2):=by
 unfold iq jK
 rw [xZ (by omega) hc hb hFe]
 simp only [Option.bind_some]
 have hle:=Ch (fun x:ba=>x.ak) ev
 generalize ji (fun x:ba=>x.ak) ev=c at hle
 by_cases h0:c.2=0
 ·simp only [h0,bne_self_eq_false,Bool.false_eq_true,if_false,ne_eq,not_true_eq_false]
  have:=FF (c:=c.1) (u:=u) (z:=c.2) hF (by omega) c.1 [] F [] [] rfl (by omega) vo (by simp)
  exact this
 ·have:(c.2 != 0)=true:=by simp [h0]
  simp [this,h0]
theorem wz:∀ {s:List ba} {l:List ay} {r:List fc},hY l→hY (jL s l r).1
 | [],l,r,h=>h
 | e :: s,l,r,h=>by unfold jL; exact wz (rD h)
theorem FE {ev:List ba} {u:Int}:hY (jK ev u).1:=by
 unfold jK
 simp only
 split
 ·exact vo
 ·exact wz vo
theorem zo {ev:List ba} {u:Int} (h:ev.length≤300):jK ev u=((jL (pN u (GR (·.ak) ev)) [] []).1,(jL (pN u (GR (·.ak) ev)) [] []).2,0):=by
 unfold jK
 rw [vI h]
 simp
end Go.Sh
namespace Go.Sh
open Go.L
def xT:ab:=ab.mk 0 0 (ByteArray.mk #[]) [] []
theorem xH {α R:Type} (q:α→Bool) (f:α→R) (e:R):∀ (l:List α) (i:Nat),scan (fun _ x=>if q x=true then some (f x) else .none) e i l=(match l.find? q with | some x=>f x | .none=>e)
 | [],i=>rfl
 | x :: l,i=>by
  unfold scan
  rw [List.find?_cons]
  cases hq:q x with
  | true=>simp
  | false=>simp only [Bool.false_eq_true,if_false]; exact xH q f e l (i+1)
def GP (l:List ay) (c v:Int):ab × Bool:=match l.find? (fun r=>decide (r.ID=c)) with
 | some r=>if v<1 ∨ v > r.ah.length then (xT,false) else (r.ah.getD (v - 1).toNat xT,true)
 | .none=>(xT,false)
theorem vq {F:Nat} {l:List ay} {r:aS} (h:Cb F l):xt F ⟨l⟩ r=some (GP l r.ID r.Version):=by
 unfold xt
 have e:GP l r.ID r.Version=scan (fun _ (x:ay)=>if decide (x.ID=r.ID)=true then some ((fun x:ay=>if r.Version<1 ∨ r.Version > x.ah.length then (xT,false) else (x.ah.getD (r.Version - 1).toNat xT,true)) x) else .none) (xT,false) 0 l:=by
  rw [xH]; unfold GP; cases l.find? (fun x=>decide (x.ID=r.ID)) <;> rfl
 rw [e]
 refine gx _ _ h.l1 (fun n i x hx hi=>?_) (fun n=>?_) h.l2
 ·simp only [xj,AP,fA hx,if_true,ep hx,Option.bind_some,fm hi]
  have hr:=h.r x (List.mem_of_getElem? hx)
  by_cases hc:x.ID=r.ID
  ·simp only [hc,bne_self_eq_false,decide_true,if_true,Bool.false_eq_true,if_false]
   by_cases hv:r.Version<1 ∨ r.Version > x.ah.length
   ·have d:(decide (r.Version<1) || decide (r.Version > (x.ah.length:Int)))=true:=by simpa using hv
    simp only [d,if_true,hv]; rfl
   ·have d:(decide (r.Version<1) || decide (r.Version > (x.ah.length:Int)))=false:=by simpa using hv
    have hl:=hr.vl.1
    have hw:i64 (r.Version - 1)=r.Version - 1:=by rw [cL (by omega) (by omega)]
    have oy:(r.Version - 1).toNat<x.ah.length:=by omega
    have GV:idx x.ah (r.Version - 1)=some x.ah[(r.Version - 1).toNat]:=by rw [kl]; exact ⟨by omega,by simp [oy]⟩
    simp only [d,Bool.false_eq_true,if_false,hv,hw,GV,Option.bind_some,ju (hr.v _ (List.getElem_mem oy))]
    rw [List.getD_eq_getElem?_getD,List.getElem?_eq_getElem oy]; rfl
  ·have:(x.ID != r.ID)=true:=by simp [hc]
   simp only [this,hc,decide_false,if_true,Bool.false_eq_true,if_false]
 ·simp only [xj,AP,fz,Bool.false_eq_true,if_false]; rfl
def lN (l:List Bool):Nat→Option Nat
 | 0=>.none
 | j+1=>if l.getD j false=true then some j else lN l j
theorem pD {l:List Bool}:∀ {j k:Nat},lN l j=some k→k<j∧l.getD k false=true∧∀ q,k<q→q<j→l.getD q false=false
 | 0,k,h=>by simp [lN] at h
 | j+1,k,h=>by
  unfold lN at h
  split at h
  ·rename_i hj; cases h; exact ⟨by omega,hj,fun q _ _=>by omega⟩
  ·rename_i hj
   obtain ⟨h1,h2,h3⟩:=pD h
   refine ⟨by omega,h2,fun q hq hq2=>?_⟩
   by_cases hqj:q=j
   ·subst hqj; simpa using hj
   ·exact h3 q hq (by omega)
def GQ (time rest ic:Int) (r:ay):Option aS :=
 if r.ao=true ∨ (r.Uses.length:Int) > ic then .none
 else if r.Uses.any (fun u=>decide (u.Time > time - rest))=true then .none
 else (lN r.au r.au.length).map fun (j:Nat)=>⟨r.ID,(j:Int)+1⟩
def p6 (l:List ay) (time rest ic:Int):List aS :=
 if ll l=false ∨ time<0 ∨ time > 1000000 ∨ rest<0 ∨ rest > 1000000 ∨ ic<0 then [] else l.filterMap (GQ time rest ic)
theorem R3 {aH:Int→List aS→Option (List aS)} {n10:Int} {jk:List aS} {x:ay} (ha:x.au.length<1000000) (hl:jk.length<1000000):∀ (j n:Nat),j≤x.au.length→j<n →
  Dp aH n10 jk x n ((j:Int) - 1)=aH (i64 (n10+1)) (jk++((lN x.au j).map fun (k:Nat)=>aS.mk x.ID ((k:Int)+1)).toList):=by
 intro j
 induction j with
 | zero=>intro n hj hn; cases n with
  | zero=>omega
  | succ n =>
   have d:decide (((0:Nat):Int) - 1 ≥ 0)=false:=by simp
   simp only [Dp,AD,d,Bool.false_eq_true,if_false,lN,Option.map_none,Option.toList_none,List.append_nil]
 | succ j ih=>intro n hj hn; cases n with
  | zero=>omega
  | succ n =>
   have d:decide (((j+1:Nat):Int) - 1 ≥ 0)=true:=by simp
   have e:((j+1:Nat):Int) - 1=(j:Int):=by omega
   have ny:j<x.au.length:=by omega
   simp only [Dp,AD,d,if_true]
   rw [e,kj ny]
   have hg:x.au.getD j false=x.au[j]:=by rw [List.getD_eq_getElem?_getD,List.getElem?_eq_getElem ny]; rfl
   simp only [Option.bind_some,lN,hg]
   cases hx:x.au[j] with
   | true =>
    simp only [if_true,Option.map_some,Option.toList_some]
    rw [fh (by simp; omega),Option.bind_some]
    have hw:i64 ((j:Int)+1)=(j:Int)+1:=by rw [cL (by omega) (by omega)]
    rw [hw]
   | false =>
    simp only [Bool.false_eq_true,if_false]
    rw [cL (by omega) (by omega)]
    exact ih n (by omega) (by omega)
theorem o5 {α β:Type} (f:α→Option β):∀ (l:List α) (i:Nat) (s:List β),run (fun _ x s=>(.inr (s++(f x).toList):List β ⊕ List β)) id i l s=s++l.filterMap f
 | [],i,s=>by simp [run]
 | x :: l,i,s=>by
  unfold run
  simp only
  rw [o5 f l,List.filterMap_cons]
  cases f x <;> simp
theorem pe {F:Nat} {l:List ay} {time rest ic:Int} (hF:400<F):rW F ⟨l⟩ time rest ic=some (p6 l time rest ic):=by
  unfold rW p6
  rw [BO hF]
  simp only [Option.bind_some,L8]
  by_cases hc:ll l=false ∨ time<0 ∨ time > 1000000 ∨ rest<0 ∨ rest > 1000000 ∨ ic<0
  · have d:(!(ll l) || (decide (time<0) || (decide (time > 1000000) || (decide (rest<0) || (decide (rest > 1000000) || decide (ic<0))))))=true:=by simpa using hc
    simp only [d,if_true,hc]
  · have d:(!(ll l) || (decide (time<0) || (decide (time > 1000000) || (decide (rest<0) || (decide (rest > 1000000) || decide (ic<0))))))=false:=by simpa using hc
    simp only [d,Bool.false_eq_true,if_false,hc]
    simp only [not_or,Bool.not_eq_false] at hc
    obtain ⟨hv,h1,h2,h3,h4,h5⟩:=hc
    have hV:=im.1 hv
    have hS:=hV.sh hF
    have hw:i64 (time - rest)=time - rest:=by rw [cL (by omega) (by omega)]
    have hlen:=hV.len
    have:=Kg (a:=l) (L:=Dn F ⟨l⟩ time rest ic) (s0:=([]:List aS)) (F:=F) (fun _ x s=>(.inr (s++(GQ time rest ic x).toList):List aS ⊕ List aS)) id (fun i s=>s.length≤i) hS.l1 (fun n i x s hx hI=>?_) (fun n s hI=>?_) hS.l2 (by simp)
    · rw [this,o5]; simp
    · have VO:=List.mem_of_getElem? hx
      have hi:i<1000000:=by have:=(List.getElem?_eq_some_iff.1 hx).1; omega
      have gP:=hV.ok x VO
      refine ⟨?_, by simp only [List.length_append]; have : (GQ time rest ic x).toList.length ≤ 1 := by cases GQ time rest ic x <;> simp
                     omega⟩
      simp only [Dn,AB,fA hx,if_true,ep hx,Option.bind_some,fm hi]
      unfold GQ
      by_cases a1:x.ao=true ∨ (x.Uses.length:Int) > ic
      · have d1:(x.ao || decide ((x.Uses.length:Int) > ic))=true:=by simpa using a1
        simp only [d1,if_true,a1,Option.toList_none,List.append_nil]
      · have d1:(x.ao || decide ((x.Uses.length:Int) > ic))=false:=by simpa using a1
        simp only [d1,Bool.false_eq_true,if_false,a1]
        rw [KF (p:=fun a0=>A2 a0 time rest) (fun u=>decide (u.Time > time - rest)) (fun u _=>by unfold A2; rw [hw]) (hS.r x VO).u.1 (hS.r x VO).u.2]
        simp only [Option.bind_some]
        by_cases a2:(x.Uses.any fun u=>decide (u.Time > time - rest))=true
        · simp only [a2,if_true,Option.toList_none,List.append_nil]
        · simp only [a2,if_false,Bool.false_eq_true]
          have ha:=(hS.r x VO).a
          rw [cL (by omega) (by omega),R3 ha.1 (by omega) x.au.length F (Nat.le_refl _) ha.2]
          rw [fm hi]
    · simp only [Dn,AB,fz,Bool.false_eq_true,if_false]; rfl
end Go.Sh
namespace Go.Sh
open Go.L
abbrev db {α:Type} (x:Option α) (P:α→Prop):Prop:=∃ a,x=some a∧P a
theorem db.bind {α β:Type} {x:Option α} {f:α→Option β} {P:α→Prop} {Q:β→Prop} (h:db x P) (k:∀ a,P a→db (f a) Q):db (x.bind f) Q:=by
 obtain ⟨a,rfl,ha⟩:=h; exact k a ha
theorem db.pure {α:Type} {a:α} {P:α→Prop} (h:P a):db (some a) P:=⟨a,rfl,h⟩
theorem db.ite {α:Type} {c:Prop} [Decidable c] {a b:Option α} {P:α→Prop} (h1:c→db a P) (h2:¬ c→db b P):db (if c then a else b) P:=by
 by_cases h:c
 ·rw [if_pos h]; exact h1 h
 ·rw [if_neg h]; exact h2 h
theorem db.app {α β:Type} {xs ys:List α} {f:List α→Option β} {Q:β→Prop} (h:xs.length+ys.length≤549755813888) (k:db (f (xs++ys)) Q):db ((app xs ys).bind f) Q:=by
 rw [fh h]; exact k
theorem db.idx {α β:Type} {l:List α} {i:Int} {f:α→Option β} {Q:β→Prop} (h0:0≤i) (h1:i<(l.length:Int)) (k:∀ x,x ∈ l→l[i.toNat]?=some x→db (f x) Q):db ((idx l i).bind f) Q:=by
 obtain ⟨j,rfl⟩:=Int.eq_ofNat_of_zero_le h0
 have hj:j<l.length:=by omega
 rw [kj hj,Option.bind_some]
 exact k _ (List.getElem_mem hj) (by simp [hj])
theorem db.imp {α:Type} {x:Option α} {P Q:α→Prop} (h:db x P) (k:∀ a,P a→Q a):db x Q:=by obtain ⟨a,h1,h2⟩:=h; exact ⟨a,h1,k a h2⟩
theorem nY {t:aU} (h:Tp t) (n:Int) (hn:n≤1000000000):db (jD t n) fun r=>Tp r.2∧0≤r.1∧(1≤n→r.1<n)∧(n<1→r.1=0):=by
 obtain ⟨x,t',h1,h2,h3,h4,h5⟩:=yu h n hn; exact ⟨_,h1,h2,h3,h4,h5⟩
theorem ru {t:aU} (h:Tp t) (a b:Int) (ha:-1000≤a) (nf:a≤b) (hb:b≤100000000):db (lA t a b) fun r=>Tp r.2∧a≤r.1∧r.1≤b:=by
 obtain ⟨x,t',h1,h2,h3,h4⟩:=L6 h a b ha nf hb; exact ⟨_,h1,h2,h3,h4⟩
theorem QN {t:aU} (h:Tp t) (n:Int) (hn:n≤1000000000):db (qS t n) fun r=>Tp r.2:=by
 obtain ⟨x,t',h1,h2⟩:=TW h n hn; exact ⟨_,h1,h2⟩
theorem TY {t:aU} (h:Tp t) (l:List Int) (hl:1≤l.length) (Cz:l.length≤1000):db (vG t l) fun r=>Tp r.2∧r.1 ∈ l:=by
 obtain ⟨x,t',h1,h2,h3⟩:=QS h l hl Cz; exact ⟨_,h1,h2,h3⟩
theorem Qs {L:List Int} {A n:Int} (h:Tp (aU.mk L A)) (hn:n≤1000000):db (if decide (n > 0)=true then (qS (aU.mk L A) n).bind fun r=>some (r.1,r.2.L,r.2.At) else some (false,L,A)) fun w=>Tp (aU.mk w.2.1 w.2.2)∧(n≤0→w.1=false):=by
 refine db.ite (fun hc=>?_) fun hc=>db.pure ⟨h,fun _=>rfl⟩
 simp only [decide_eq_true_eq] at hc
 exact (QN h n (by omega)).bind fun r hr=>db.pure ⟨hr,fun h0=>by omega⟩
theorem Km:∀ (l:List Int),(Du l).size=l.length:=by
 have key:∀ (l:List Int) (b:ByteArray),(l.foldl (fun r n=>r.push (UInt8.ofNat n.toNat)) b).size=b.size+l.length:=by
  intro l
  induction l with
  | nil=>intro b; simp
  | cons x l ih=>intro b; rw [List.foldl_cons,ih]; simp; omega
 intro l; unfold Du; rw [key]; simp
theorem db.yK {β:Type} {a b:ByteArray} {f:ByteArray→Option β} {Q:β→Prop} (h:a.size+b.size≤1000000000) (k:db (f (a++b)) Q):db ((Go.L.yK a b).bind f) Q:=by
 unfold Go.L.yK; rw [if_pos h]; exact k
theorem Vv {F:Nat} {t:aU} (h:Tp t) (hF:20<F):db (Hh F t 3) fun r=>Tp r.2∧r.1.size≤3:=by
 unfold Hh
 refine (ru h 1 3 (by omega) (by omega) (by omega)).bind fun r1 h1=>?_
 refine I2 (L:=Hi) (B:=Hj) (fun _=>rfl) (fun b n l a=>(b.size:Int)+n≤3∧0≤n∧Tp (aU.mk l a)) (fun _ n _ _=>n.toNat) (fun r=>Tp r.2∧r.1.size≤3) ?_ F (ByteArray.mk #[]) r1.1 r1.2.L r1.2.At ⟨by show ((0:Nat):Int)+_≤3; omega,by omega,h1.1⟩ (by omega)
 intro rec b n l a hI ih
 obtain ⟨q1,q2,q3⟩:=hI
 unfold Hj
 refine db.ite (fun hc=>?_) fun hc=>db.pure ⟨q3,by show b.size≤3; omega⟩
 simp only [decide_eq_true_eq] at hc
 refine (nY q3 3 (by omega)).bind fun r hr=>?_
 have hs:(Du [(IntKind.u8.wrap (i64 (97+r.1)))]).size=1:=Km _
 refine db.yK (by rw [hs]; omega) ?_
 rw [cL (n:=n - 1) (by omega) (by omega)]
 exact ih _ _ _ _ ⟨by rw [ByteArray.size_append,hs]; omega,by omega,hr.1⟩ (by omega)
def K1 (x:ab):Prop:=x.aK.length≤20∧x.aL.length≤20
theorem K1.sh {F:Nat} {x:ab} (h:K1 x) (hF:50<F):Mt F x:=by
 have:=h.1; have:=h.2
 exact ⟨⟨by omega,by omega⟩,by omega,by omega⟩
def Z0 (n:Int) (e:ba):Prop:=K1 e.Item∧(n≤0→0≤e.Item.ID∧e.Item.ID<5)
def RO (n:Int) (l:List ba):Prop:=∀ e ∈ l,Z0 n e
theorem RO.short {F:Nat} {n:Int} {l:List ba} (h:RO n l) (hF:50<F):ze F l:=fun e he=>(h e he).1.sh hF
section
variable {aH:Int→List Int→Int→List Int→List ba→Option (List ba × aU)} {n3:Int} {l7:List ba} {l0:List ba × aU→Prop} {n:Int}
end
end Go.Sh
namespace Go.Sh
open Go.L
theorem e9 {α σ R:Type} {a:List α} {L:Nat→Int→σ→Option R} (I:Nat→σ→Prop) {Q:R→Prop}
  (hS:∀ n (i:Nat) x s,a[i]?=some x→I i s→db (L (n+1) (i:Int) s) Q ∨ ∃ s',L (n+1) (i:Int) s=L n ((i+1:Nat):Int) s'∧I (i+1) s')
  (hE:∀ n s,I a.length s→db (L (n+1) (a.length:Int) s) Q) {F:Nat} (hF:a.length<F) {s0:σ} (h0:I 0 s0):db (L F 0 s0) Q:=by
 have key:∀ (k i n:Nat) (s:σ),i+k=a.length→k<n→I i s→db (L n (i:Int) s) Q:=by
  intro k
  induction k with
  | zero=>intro i n s hi hn hI; cases n with
   | zero=>omega
   | succ n =>
    have:i=a.length:=by omega
    subst this; exact hE n s hI
  | succ k ih=>intro i n s hi hn hI; cases n with
   | zero=>omega
   | succ n =>
    have hl:i<a.length:=by omega
    rcases hS n i a[i] s (by simp [hl]) hI with h | ⟨s',h1,h2⟩
    ·exact h
    ·rw [h1]; exact ih (i+1) n s' (by omega) (by omega) h2
 exact key a.length 0 F s0 (by omega) hF h0
theorem db.Rm {α β:Type} {l:List α} {i:Nat} {x:α} {f:α→Option β} {Q:β→Prop} (h:l[i]?=some x) (k:db (f x) Q):db ((Go.L.idx l (i:Int)).bind f) Q:=by
 rw [ep h]; exact k
abbrev pX (l:List Int) (i:Int):Int:=l.getD i.toNat 0
def fa (l:List Int):List Int→Int
 | []=>0
 | i :: c=>pX l i+fa l c
theorem BI (l:List Int):∀ a b:List Int,fa l (a++b)=fa l a+fa l b
 | [],b=>by simp [fa]
 | i :: a,b=>by simp only [List.cons_append,fa,BI l a b]; omega
theorem uY (l c:List Int) (i:Int):fa l (c++[i])=fa l c+pX l i:=by rw [BI]; simp [fa]
abbrev Small (l:List Int):Prop:=∀ x ∈ l,-10000≤x∧x≤10000
theorem wo {l:List Int} (h:Small l) (i:Int):-10000≤pX l i∧pX l i≤10000:=by
 unfold pX
 rw [List.getD_eq_getElem?_getD]
 cases hx:l[i.toNat]? with
 | none=>simp
 | some x=>exact h x (List.mem_of_getElem? hx)
theorem my {l:List Int} (h:Small l):∀ c:List Int,-10000 * (c.length:Int)≤fa l c∧fa l c≤10000 * (c.length:Int)
 | []=>by simp [fa]
 | i :: c=>by
  have h1:=wo h i
  have h2:=my h c
  simp only [fa,List.length_cons]
  omega
structure yU (P:eX):Prop where
 n:P.al.length≤12
 m:P.Rows.length≤60
 c:∀ x ∈ P.al,0≤x∧x≤10000
 l:∀ r ∈ P.Rows,r.cu.length=P.al.length
 s:∀ r ∈ P.Rows,Small r.cu
 b:∀ r ∈ P.Rows,-1000000≤r.bQ∧r.bQ≤1000000∧-1000000≤r.cO∧r.cO≤1000000
theorem yU.cs {P:eX} (h:yU P):Small P.al:=fun x hx=>by have:=h.c x hx; omega
def gX (P:eX) (s:List Int) (g:aq→Int):Prop:=s.length=P.Rows.length∧∀ (k:Nat) r,P.Rows[k]?=some r→s[k]?=some (g r)
def kL (P:eX) (c:List Int):Bool:=P.Rows.all fun r=>!(decide (fa r.cu c<r.bQ) || decide (fa r.cu c > r.cO))
theorem gX.congr {P:eX} {s:List Int} {g g':aq→Int} (h:gX P s g) (e:∀ r ∈ P.Rows,g r=g' r):gX P s g' :=
 ⟨h.1,fun k r hr=>by rw [h.2 k r hr,e r (List.mem_of_getElem? hr)]⟩
theorem Mu {F:Nat} {P:eX} {s:List Int} {g:aq→Int} {i:Nat} {t:Int} (hP:yU P) (hF:60<F) (hs:gX P s g) (hg:∀ r ∈ P.Rows,-1000000≤g r∧g r≤1000000) (hi:i<P.al.length) (ht:t=1 ∨ t=-1) :
  db (xi F (i:Int) t P s) (fun s'=>gX P s' fun r=>g r+t * pX r.cu (i:Int)):=by
 unfold xi
 have hm:=hP.m
 refine e9 (a:=P.Rows) (L:=Db (i:Int) t P) (fun k l=>l.length=P.Rows.length∧∀ (j:Nat) r,P.Rows[j]?=some r→l[j]?=some (if j<k then g r+t * pX r.cu (i:Int) else g r)) (fun n k r l hr hI=>.inr ?_) (fun n l hI=>?_) (by omega) ⟨hs.1,fun j r hr=>by simp [hs.2 j r hr]⟩
 ·have hk:k<P.Rows.length:=(List.getElem?_eq_some_iff.1 hr).1
  have fw:=List.mem_of_getElem? hr
  have h1:=hI.2 k r hr
  rw [if_neg (by omega)] at h1
  have hc:r.cu[i]?=some (pX r.cu (i:Int)):=by
   have:i<r.cu.length:=by rw [hP.l r fw]; exact hi
   simp [pX,List.getD,this]
  have RA:=wo (hP.s r fw) (i:Int)
  have MJ:=hg r fw
  have ht1:i64 (t * pX r.cu (i:Int))=t * pX r.cu (i:Int):=by
   rcases ht with rfl | rfl
   ·exact cL (by omega) (by omega)
   ·exact cL (by omega) (by omega)
  have Xz:i64 (g r+t * pX r.cu (i:Int))=g r+t * pX r.cu (i:Int):=by
   rcases ht with rfl | rfl
   ·exact cL (by omega) (by omega)
   ·exact cL (by omega) (by omega)
  refine ⟨l.set k (g r+t * pX r.cu (i:Int)),?_,by simp [hI.1],fun j r' kJ=>?_⟩
  ·simp only [Db,Ak,fA hr,if_true,ep hr,ep h1,ep hc,Option.bind_some,ht1,Xz,fm (show k<1000000 by omega),Int.toNat_natCast]
  ·by_cases hj:j=k
   ·subst hj
    rw [hr] at kJ; cases kJ
    have:j<l.length:=by rw [hI.1]; exact hk
    simp [this]
   ·rw [List.getElem?_set_ne (Ne.symm hj),hI.2 j r' kJ]
    by_cases h9:j<k
    ·rw [if_pos h9,if_pos (by omega)]
    ·rw [if_neg h9,if_neg (by omega)]
 ·simp only [Db,Ak,fz,Bool.false_eq_true,if_false]
  refine ⟨l,rfl,hI.1,fun k r hr=>?_⟩
  rw [hI.2 k r hr,if_pos (List.getElem?_eq_some_iff.1 hr).1]
theorem TM {F:Nat} {P:eX} {s:List Int} {g:aq→Int} (hP:yU P) (hF:60<F) (hs:gX P s g) :
  A1 F P s=some (P.Rows.all fun r=>!(decide (g r<r.bQ) || decide (g r > r.cO)),s):=by
 unfold A1
 have hm:=hP.m
 have:=gx (a:=P.Rows) (L:=Dc P s) (F:=F) (fun _ r=>if (!(decide (g r<r.bQ) || decide (g r > r.cO)))=true then .none else some (false,s)) (true,s) (by omega) (fun n k r hr hk=>?_) (fun n=>?_) (by omega)
 ·rw [this]
  have key:∀ (l:List aq) (i:Nat),scan (fun _ r=>if (!(decide (g r<r.bQ) || decide (g r > r.cO)))=true then .none else some (false,s)) (true,s) i l=(l.all fun r=>!(decide (g r<r.bQ) || decide (g r > r.cO)),s):=by
   intro l
   induction l with
   | nil=>intro i; rfl
   | cons r l ih =>
    intro i
    unfold scan
    rw [List.all_cons]
    cases (!(decide (g r<r.bQ) || decide (g r > r.cO))) with
    | true=>simpa using ih (i+1)
    | false=>simp
  rw [key]
 ·simp only [Dc,Al,fA hr,if_true,ep hr,ep (hs.2 k r hr),Option.bind_some,fm hk]
  by_cases h1:decide (g r<r.bQ)=true
  ·simp [h1]
  ·by_cases h2:decide (g r > r.cO)=true
   ·simp [h1,h2]
   ·simp [h1,h2]
 ·simp only [Dc,Al,fz,Bool.false_eq_true,if_false]
end Go.Sh
namespace Go.Sh
open Go.L
def qG (n:Nat):Nat→List Int→Prop
 | _,[]=>True
 | k,i :: l=>∃ j:Nat,i=(j:Int)∧k≤j∧j<n∧qG n (j+1) l
theorem qG.len {n:Nat}:∀ {l:List Int} {k:Nat},qG n k l→k≤n→l.length+k≤n
 | [],k,_,h=>by simpa using h
 | i :: l,k,⟨j,_,h1,h2,h3⟩,h=>by
  have:=h3.len (by omega)
  simp only [List.length_cons]; omega
theorem qG.mono {n:Nat}:∀ {l:List Int} {k k':Nat},qG n k l→k'≤k→qG n k' l
 | [],_,_,_,_=>trivial
 | i :: l,k,k',⟨j,h0,h1,h2,h3⟩,h=>⟨j,h0,by omega,h2,h3⟩
theorem qG.mem {n:Nat}:∀ {l:List Int} {k:Nat},qG n k l→∀ x ∈ l,∃ j:Nat,x=(j:Int)∧k≤j∧j<n
 | i :: l,k,⟨j,h0,h1,h2,h3⟩,x,hx=>by
  rcases List.mem_cons.1 hx with rfl | hx
  ·exact ⟨j,h0,h1,h2⟩
  ·obtain ⟨j',h4,h5,h6⟩:=h3.mem x hx
   exact ⟨j',h4,by omega,h6⟩
def Good (P:eX) (pl:bk):Prop:=qG P.al.length 0 pl.cN∧kL P pl.cN=true∧pl.iy=fa P.al pl.cN
structure Out (P:eX) (c:List Int) (E:List Int→Prop) (pl Ad:bk):Prop where
 pk:(pl.Found=true→Good P pl)→Ad.Found=true→Good P Ad
 gT:pl.Found=true→Ad.Found=true∧Ad.iy≤pl.iy
 xX:∀ e,E e→kL P (c++e)=true→Ad.Found=true∧Ad.iy≤fa P.al (c++e)
 nodes:Ad.jt=pl.jt
 same:Ad.Found=false→Ad=pl
structure YY (P:eX) (c:List Int) (k:Nat):Prop where
 Hm:∀ e,qG P.al.length k e→qG P.al.length 0 (c++e)
 len:c.length≤k
theorem Hs {P:eX} (hP:yU P) {c:List Int} (h:c.length≤12):i64 (fa P.al c)=fa P.al c:=by
 have:=my hP.cs c
 exact cL (by omega) (by omega)
theorem Mq {P:eX} {c:List Int} {pl:bk} (h:c.length≤12) (hc:qG P.al.length 0 c) (hm:kL P c=true) :
  db (AW c (fa P.al c) pl) (Out P c (fun e=>e=[]) pl):=by
 unfold AW
 by_cases hf:(!pl.Found || decide (fa P.al c<pl.iy))=true
 ·rw [if_pos hf]
  refine db.app (by simp; omega) ?_
  refine ⟨_,rfl,fun _ _=>⟨by simpa using hc,by simpa using hm,by simp⟩,fun h1=>⟨rfl,?_⟩,fun e he _=>by subst he; simp,rfl,fun h=>by cases h⟩
  rw [h1] at hf
  simp at hf ⊢
  exact Int.le_of_lt hf
 ·rw [if_neg hf]
  simp only [Bool.or_eq_true,Bool.not_eq_true',decide_eq_true_eq,not_or,Bool.not_eq_false,Int.not_lt] at hf
  exact ⟨_,rfl,fun h1 h2=>h1 h2,fun h1=>⟨h1,Int.le_refl _⟩,fun e he _=>by subst he; simpa using hf,rfl,fun _=>rfl⟩
theorem Fz (c:List Int) (i:Int) (h:c.length≤1000000):Ht (c++[i]) (i64 (((c++[i]).length:Int) - 1))=some c:=by
 have e:i64 (((c++[i]).length:Int) - 1)=(c.length:Int):=by
  rw [cL (by simp only [List.length_append,List.length_cons,List.length_nil]; omega) (by simp only [List.length_append,List.length_cons,List.length_nil]; omega)]; simp
 rw [e]
 unfold Ht
 rw [if_pos ⟨by omega,by simp; omega⟩]
 simp
def RR (i:Nat):List Int→Prop
 | []=>True
 | x :: _=>x<(i:Int)
theorem Kk {P:eX} (hP:yU P):∀ (F k:Nat) (c s:List Int) (pl:bk),100+(P.al.length - k)≤F→k≤P.al.length→YY P c k→gX P s (fun r=>fa r.cu c) →
  db (wa F (k:Int) (fa P.al c) c P s pl) (fun z=>z.1=c∧gX P z.2.1 (fun r=>fa r.cu c)∧Out P c (qG P.al.length k) pl z.2.2):=by
 intro F
 have hn:=hP.n
 induction F with
 | zero=>intro k c s pl hF; omega
 | succ F ih =>
  intro k c s pl hF hk hc hs
  have hcl:=hc.len
  -- the loop
  have loop : ∀ (d i m : Nat) (s1 : List Int) (B0 : bk), i + d = P.al.length → d < m → k ≤ i → gX P s1 (fun r => fa r.cu c) → Out P c (fun e => qG P.al.length k e ∧ RR i e) pl B0 →
    db (Dd F (wa F) (fa P.al c) P m (i:Int) B0.Found B0.cN B0.iy B0.jt s1 c) (fun z=>z.1=c∧gX P z.2.1 (fun r=>fa r.cu c)∧Out P c (qG P.al.length k) pl z.2.2):=by
   intro d
   induction d with
   | zero =>
    intro i m s1 B0 hi hm wC Pa hO
    cases m with
    | zero=>omega
    | succ m =>
     have hin:i=P.al.length:=by omega
     subst hin
     simp only [Dd,Am,fz,Bool.false_eq_true,if_false]
     refine ⟨_,rfl,rfl,Pa,hO.pk,hO.gT,fun e he hm=>hO.xX e ⟨he,?_⟩ hm,hO.nodes,hO.same⟩
     cases e with
     | nil=>trivial
     | cons x e=>obtain ⟨j,rfl,_,h2,_⟩:=he; show (j:Int)<_; omega
   | succ d ihd =>
    intro i m s1 B0 hi hm wC Pa hO
    cases m with
    | zero=>omega
    | succ m =>
     have rP:i<P.al.length:=by omega
     have hx:P.al[i]?=some (pX P.al (i:Int)):=by simp [pX,List.getD,rP]
     have vQ:bk.mk B0.Found B0.cN B0.iy B0.jt=B0:=rfl
     have hlen:(c++[(i:Int)]).length≤i+1:=by simp; omega
     have Sp:i64 (fa P.al c+pX P.al (i:Int))=fa P.al (c++[(i:Int)]):=by
      rw [← uY]; exact Hs hP (by omega)
     simp only [Dd,Am,fA hx,if_true,vQ]
     refine db.app (by simp; omega) ?_
     refine db.bind (Mu (t:=1) hP (by omega) Pa (fun r hr=>by have:=my (hP.s r hr) c; omega) rP (.inl rfl)) fun s2 hs2=>?_
     have Xt:gX P s2 (fun r=>fa r.cu (c++[(i:Int)])):=hs2.congr fun r hr=>by rw [uY]; omega
     refine db.Rm hx ?_
     rw [fm (by omega),Sp]
     have py:YY P (c++[(i:Int)]) (i+1):=⟨fun e he=>by
      rw [List.append_assoc]
      exact hc.Hm _ ⟨i,rfl,wC,rP,he⟩,hlen⟩
     refine db.bind (ih (i+1) (c++[(i:Int)]) s2 B0 (by omega) (by omega) py Xt) fun z hz=>?_
     obtain ⟨z1,z2,z3⟩:=z
     obtain ⟨rfl,hs3,GS⟩:=hz
     refine db.bind (Mu (t:=-1) hP (by omega) hs3 (fun r hr=>by have:=my (hP.s r hr) (c++[(i:Int)]); omega) rP (.inr rfl)) fun s4 hs4=>?_
     have Xu:gX P s4 (fun r=>fa r.cu c):=hs4.congr fun r hr=>by simp only [uY]; omega
     rw [Fz c i (by omega)]
     refine ihd (i+1) m s4 z3 (by omega) (by omega) (by omega) Xu ⟨fun hg hf=>GS.pk (hO.pk hg) hf,fun hf=>?_,fun e he H6=>?_,GS.nodes.trans hO.nodes,fun hf=>by
      have e1:z3=B0:=GS.same hf
      rw [e1] at hf
      exact e1.trans (hO.same hf)⟩
     ·have h1:=hO.gT hf
      have h2:=GS.gT h1.1
      exact ⟨h2.1,Int.le_trans h2.2 h1.2⟩
     ·obtain ⟨Rs,VG⟩:=he
      have hold:(qG P.al.length k e∧RR i e)→z3.Found=true∧z3.iy≤fa P.al (c++e):=fun h=>by
       have h1:=hO.xX e h H6
       have h2:=GS.gT h1.1
       exact ⟨h2.1,Int.le_trans h2.2 h1.2⟩
      cases e with
      | nil=>exact hold ⟨Rs,trivial⟩
      | cons x e' =>
       obtain ⟨j,rfl,h1,h2,h3⟩:=id Rs
       by_cases hj:j=i
       ·subst hj
        have:=GS.xX e' h3 (by rw [List.append_assoc]; exact H6)
        rw [List.append_assoc] at this
        exact this
       ·refine hold ⟨Rs,?_⟩
        have:(j:Int)<((i+1:Nat):Int):=VG
        show (j:Int)<(i:Int)
        omega
  unfold wa
  rw [TM hP (by omega) hs]
  show db (if kL P c=true then _ else _) _
  have Wy:qG P.al.length 0 c:=by simpa using hc.Hm [] trivial
  by_cases hm:kL P c=true
  ·rw [if_pos hm]
   refine db.bind (Mq (by omega) Wy hm) fun B0 hO=>?_
   unfold Gu
   refine loop (P.al.length - k) k F s B0 (by omega) (by omega) (Nat.le_refl _) hs ⟨hO.pk,hO.gT,fun e he H6=>?_,hO.nodes,hO.same⟩
   cases e with
   | nil=>exact hO.xX [] rfl H6
   | cons x e'=>obtain ⟨⟨j,rfl,h1,_⟩,h2⟩:=he; have:(j:Int)<(k:Int):=h2; omega
  ·rw [if_neg hm]
   unfold Gu
   refine loop (P.al.length - k) k F s pl (by omega) (by omega) (Nat.le_refl _) hs ⟨fun h=>h,fun h=>⟨h,Int.le_refl _⟩,fun e he H6=>?_,rfl,fun _=>rfl⟩
   cases e with
   | nil=>rw [List.append_nil] at H6; exact absurd H6 hm
   | cons x e'=>obtain ⟨⟨j,rfl,h1,_⟩,h2⟩:=he; have:(j:Int)<(k:Int):=h2; omega
theorem Oh {F:Nat} {P:eX} (hP:yU P) (hF:200<F) {pl:bk} (h0:pl.Found=false) :
  db (Bf F P pl) (fun Ad=>(Ad.Found=true→Good P Ad)∧(∀ e,qG P.al.length 0 e→kL P e=true→Ad.Found=true∧Ad.iy≤fa P.al e)∧Ad.jt=pl.jt∧(Ad.Found=false→Ad=pl)):=by
 unfold Bf
 have hn:=hP.n; have hm:=hP.m
 rw [k8 (by omega)]
 simp only [Option.bind_some]
 show db ((wa F ((0:Nat):Int) (fa P.al []) [] P _ pl).bind _) _
 refine db.bind (Kk hP F 0 [] _ pl (by omega) (by omega) ⟨fun e he=>by simpa using he,by simp⟩ ⟨by simp,fun k r hr=>?_⟩) fun z hz=>?_
 ·have:k<P.Rows.length:=(List.getElem?_eq_some_iff.1 hr).1
  simp [fa,this]
 ·refine ⟨_,rfl,hz.2.2.pk (fun h=>by rw [h0] at h; cases h),fun e he H6=>?_,hz.2.2.nodes,hz.2.2.same⟩
  simpa using hz.2.2.xX e he (by simpa using H6)
end Go.Sh
namespace Go.Sh
open Go.L
theorem qF {F:Nat} {l:List Int} (h:Small l) (hb:l.length<1000000) (hF:l.length<F):Gr F l=some true:=by
 unfold Gr
 rw [oo (a:=l) (L:=C3 l) (fun x=>!(decide (x< -10000) || decide (x > 10000))) hb (fun n i x hx hi=>?_) (fun n=>?_) hF]
 ·congr 1
  simp only [List.all_eq_true]
  intro x hx; have:=h x hx; simp; omega
 ·simp only [C3,JR,fA hx,if_true,ep hx,Option.bind_some,fm hi]
  cases (decide (x< -10000) || decide (x > 10000)) <;> simp
 ·simp only [C3,JR,fz,Bool.false_eq_true,if_false]
theorem yT {F:Nat} {P:eX} (hP:yU P) (hF:100<F):uH F P=some true:=by
 unfold uH
 have hn:=hP.n; have hm:=hP.m
 rw [if_neg (by simp; omega)]
 have h2:Bl F P F 0=some true:=by
  rw [oo (a:=P.Rows) (L:=Bl F P) (fun r=>decide (r ∈ P.Rows)) (by omega) (fun n i r hr hi=>?_) (fun n=>?_) (by omega)]
  ·congr 1
   simp
  ·have fw:=List.mem_of_getElem? hr
   have hb:=hP.b r fw
   have hl:=hP.l r fw
   have e1:(((r.cu.length:Int) != (P.al.length:Int)))=false:=by rw [hl]; simp
   have e2:Bm r.bQ=some true:=by unfold Bm; congr 1; simp; omega
   have e3:Bm r.cO=some true:=by unfold Bm; congr 1; simp; omega
   simp only [Bl,Ao,fA hr,if_true,ep hr,Option.bind_some,fm hi,e1,Bool.false_eq_true,if_false,qF (hP.s r fw) (by omega) (show r.cu.length<F by omega),e2,e3,Bool.not_true,fw,decide_true]
  ·simp only [Bl,Ao,fz,Bool.false_eq_true,if_false]
 have:=gx (a:=P.al) (L:=De F P) (F:=F) (fun _ x=>(.none:Option Bool)) true (by omega) (fun n i x hx hi=>?_) (fun n=>?_) (by omega)
 ·rw [this]
  congr 1
  have key:∀ (l:List Int) (i:Nat),scan (fun _ _=>(.none:Option Bool)) true i l=true:=by
   intro l
   induction l with
   | nil=>intro i; rfl
   | cons x l ih=>intro i; exact ih (i+1)
  exact key _ _
 ·have hc:=hP.c x (List.mem_of_getElem? hx)
  have e1:(decide (x<0) || decide (x > 10000))=false:=by simp; omega
  simp only [De,An,fA hx,if_true,ep hx,Option.bind_some,fm hi,e1,Bool.false_eq_true,if_false]
 ·simp only [De,An,fz,Bool.false_eq_true,if_false]
  exact h2
def xV (P:eX) (st:List Int):Prop:=st.length=P.al.length∧∀ x ∈ st,-1≤x∧x≤1
theorem xV.set {P:eX} {st:List Int} (h:xV P st) (i:Nat) {v:Int} (hv:-1≤v∧v≤1):xV P (st.set i v) :=
 ⟨by simp [h.1],fun x hx=>(List.mem_or_eq_of_mem_set hx).elim (h.2 x) (fun e=>by rw [e]; exact hv)⟩
theorem wM {F:Nat} {P:eX} {st:List Int} {n:Int} (hP:yU P) (hF:100<F) (h:xV P st) (hn:n=(P.al.length:Int)):xe F st n=some true:=by
 subst hn
 unfold xe
 have h1:=hP.n
 rw [if_neg (by simp [h.1]; omega)]
 rw [oo (a:=st) (L:=C7 st) (fun x=>!(decide (x< -1) || decide (x > 1))) (by rw [h.1]; omega) (fun n i x hx hi=>?_) (fun n=>?_) (by rw [h.1]; omega)]
 ·congr 1
  simp only [List.all_eq_true]
  intro x hx; have:=h.2 x hx; simp; omega
 ·simp only [C7,J2,fA hx,if_true,ep hx,Option.bind_some,fm hi]
  cases (decide (x< -1) || decide (x > 1)) <;> simp
 ·simp only [C7,J2,fz,Bool.false_eq_true,if_false]
theorem F4 {F:Nat} {P:eX} {st:List Int} (hP:yU P) (hF:100<F) (h:xV P st):AJ F st (P.al.length:Int)=some true:=by
 unfold AJ
 have h1:=hP.n
 rw [if_neg (by simp [h.1])]
 rw [oo (a:=st) (L:=C5 st) (fun x=>!(decide (x< -1) || decide (x > 1))) (by rw [h.1]; omega) (fun n i x hx hi=>?_) (fun n=>?_) (by rw [h.1]; omega)]
 ·congr 1
  simp only [List.all_eq_true]
  intro x hx; have:=h.2 x hx; simp; omega
 ·simp only [C5,JX,fA hx,if_true,ep hx,Option.bind_some,fm hi]
  cases (decide (x< -1) || decide (x > 1)) <;> simp
 ·simp only [C5,JX,fz,Bool.false_eq_true,if_false]
theorem Q7 {F:Nat} {P:eX} {st:List Int} {r:aq} (hP:yU P) (hF:100<F) (h:xV P st) (hr:r ∈ P.Rows):db (Bb F r st) (fun _=>True):=by
 have h1:=hP.n
 have hl:=hP.l r hr
 unfold Bb
 rw [wM hP hF h (by rw [hl])]
 simp only [Option.bind_some,Bool.not_true,Bool.false_eq_true,if_false,qF (hP.s r hr) (by omega) (show r.cu.length<F by omega)]
 refine e9 (a:=r.cu) (L:=fun n i (s:Int × Int)=>Dk r st n s.1 s.2 i) (fun _ _=>True) (fun n i x s hx _=>.inr ?_) (fun n s _=>?_) (by omega) (s0:=((0:Int),(0:Int))) trivial
 ·have hi:i<st.length:=by rw [h.1,← hl]; exact (List.getElem?_eq_some_iff.1 hx).1
  have hs:st[i]?=some st[i]:=by simp [hi]
  have hlt:i<1000000:=by rw [h.1] at hi; omega
  simp only [Dk,Ax,fA hx,if_true,ep hx,ep hs,Option.bind_some,fm hlt]
  by_cases h2:(st[i] == 1)=true
  ·rw [if_pos h2]; exact ⟨(_,_),rfl,trivial⟩
  ·rw [if_neg h2]
   by_cases h3:(st[i] == -1)=true
   ·rw [if_pos h3]; exact ⟨(_,_),rfl,trivial⟩
   ·rw [if_neg h3]; exact ⟨s,rfl,trivial⟩
 ·simp only [Dk,Ax,fz,Bool.false_eq_true,if_false]
  exact ⟨_,rfl,trivial⟩
theorem Of {F:Nat} {P:eX} {st:List Int} (hP:yU P) (hF:100<F) (h:xV P st):db (A9 F P st) (fun _=>True):=by
 have h1:=hP.m
 unfold A9
 rw [yT hP hF]
 simp only [Option.bind_some,Bool.not_true,Bool.false_eq_true,if_false,wM hP hF h rfl]
 refine e9 (a:=P.Rows) (L:=fun n i (_:Unit)=>Dh F P st n i) (fun _ _=>True) (fun n i x s hx _=>?_) (fun n s _=>?_) (by omega) (s0:=()) trivial
 ·have hi:i<P.Rows.length:=(List.getElem?_eq_some_iff.1 hx).1
  obtain ⟨r,hr,_⟩:=Q7 hP hF h (List.mem_of_getElem? hx)
  simp only [Dh,Au,fA hx,if_true,ep hx,hr,Option.bind_some,fm (show i<1000000 by omega)]
  split
  ·exact .inl ⟨_,rfl,trivial⟩
  ·exact .inr ⟨(),rfl,trivial⟩
 ·simp only [Dh,Au,fz,Bool.false_eq_true,if_false]
  exact ⟨_,rfl,trivial⟩
end Go.Sh
namespace Go.Sh
open Go.L
abbrev yC:aM:=aM.mk 3 0 0 0 (-1) 0 1
theorem K3 {F:Nat} {P:eX} {st:List Int} (hP:yU P) (hF:100<F) (h:xV P st):db (A0 F P st yC) (fun _=>True):=by
 have h1:=hP.n
 unfold A0
 rw [yT hP hF]
 have e1:AI P yC=some true:=by simp [AI]
 simp only [Option.bind_some,Bool.not_true,Bool.false_eq_true,if_false,F4 hP hF h,e1]
 refine db.bind (P:=fun _=>True) ?_ fun r _=>⟨_,rfl,trivial⟩
 unfold EF
 rw [k8 (by omega)]
 simp only [Option.bind_some]
 rw [if_neg (by decide)]
 unfold Ah
 rw [if_neg (by decide)]
 unfold Ai
 refine e9 (a:=P.al) (L:=fun n i (s:Int)=>C4 P st yC (List.replicate P.al.length 0) n s i) (fun _ _=>True) (fun n i x s hx _=>.inr ?_) (fun n s _=>?_) (by omega) trivial
 ·have hl:i<P.al.length:=(List.getElem?_eq_some_iff.1 hx).1
  have hi:i<st.length:=by rw [h.1]; exact hl
  have hs:st[i]?=some st[i]:=by simp [hi]
  have h0:(List.replicate P.al.length (0:Int))[i]?=some 0:=by simp [hl]
  simp only [C4,JW,fA hx,if_true,ep hx,ep hs,ep h0,Option.bind_some,fm (show i<1000000 by omega)]
  by_cases h2:(st[i] == 1)=true
  ·rw [if_pos h2]; exact ⟨_,rfl,trivial⟩
  ·rw [if_neg h2]
   by_cases h3:(st[i] == -1)=true
   ·rw [if_pos h3]; exact ⟨_,rfl,trivial⟩
   ·rw [if_neg h3]; exact ⟨s,rfl,trivial⟩
 ·simp only [C4,JW,fz,Bool.false_eq_true,if_false]
  refine db.bind (P:=fun _=>True) ?_ fun r _=>⟨_,rfl,trivial⟩
  unfold EN quo QX
  simp only [show ¬ ((1:Int)=0) by decide,if_false,Option.bind_some]
  split <;> exact ⟨_,rfl,trivial⟩
theorem Oo {P:eX} (hP:yU P) {found:Bool} {xX:Int}:∀ (F k:Nat) (c0:List aM) (st:List Int),200+(P.al.length - k)≤F→k≤P.al.length→c0.length+2 ^ (P.al.length+1 - k)≤1000000→xV P st→(∀ i,k≤i→i<P.al.length→st[i]?=some (-1)) →
  db (AX F (k:Int) c0 P st yC found xX) (fun z=>z.1=(c0.length:Int)∧z.2.2=st∧c0.length<z.2.1.length∧z.2.1.length<c0.length+2 ^ (P.al.length+1 - k)):=by
 intro F
 have hn:=hP.n
 induction F with
 | zero=>intro k c0 st hF; omega
 | succ F ih =>
  intro k c0 st hF hk hb vy Zz
  have aa1:2≤2 ^ (P.al.length+1 - k):=by
   have:2 ^ 1≤2 ^ (P.al.length+1 - k):=Nat.pow_le_pow_right (by omega) (by omega)
   simpa using this
  unfold AX
  refine db.bind (Of hP (by omega) vy) fun r1 _=>?_
  refine db.ite (fun _=>?_) fun _=>?_
  ·refine db.app (by simp; omega) ?_
   exact ⟨_,rfl,rfl,rfl,by simp,by simp; omega⟩
  ·refine db.bind (K3 hP (by omega) vy) fun r4 _=>?_
   refine db.ite (fun _=>?_) fun eE=>?_
   ·refine db.app (by simp; omega) ?_
    exact ⟨_,rfl,rfl,rfl,by simp,by simp; omega⟩
   ·have BU:k<P.al.length:=by
     rcases Nat.lt_or_ge k P.al.length with h | h
     ·exact h
     ·exfalso
      have:k=P.al.length:=by omega
      subst this
      simp [vy.1] at eE
    have HW:k<st.length:=by rw [vy.1]; exact BU
    have hp2:2 ^ (P.al.length+1 - k)=2 ^ (P.al.length+1 - (k+1))+2 ^ (P.al.length+1 - (k+1)):=by
     have:P.al.length+1 - k=(P.al.length+1 - (k+1))+1:=by omega
     rw [this,Nat.pow_succ]; omega
    have SA:=Zz k (Nat.le_refl _) BU
    refine db.app (by simp; omega) ?_
    refine db.Rm SA ?_
    rw [fm (by omega),Int.toNat_natCast]
    have Xx:=vy.set k (v:=0) (by omega)
    have SY:∀ v:Int,∀ i,k+1≤i→i<P.al.length→(st.set k v)[i]?=some (-1):=fun v i h1 h2=>by
     rw [List.getElem?_set_ne (by omega)]; exact Zz i (by omega) h2
    refine db.bind (ih (k+1) (c0++[aM.mk 1 (k:Int) 0 0 0 0 0]) (st.set k 0) (by omega) (by omega) (by simp only [List.length_append,List.length_cons,List.length_nil]; omega) Xx (SY 0)) fun z hz=>?_
    obtain ⟨z1,z2,z3⟩:=z
    obtain ⟨rfl,rfl,vU,BX⟩:=hz
    simp only [List.length_append,List.length_cons,List.length_nil] at vU BX
    refine db.Rm (x:=0) (by simp [HW]) ?_
    simp only [List.set_set]
    have Xy:=vy.set k (v:=1) (by omega)
    refine db.bind (ih (k+1) z2 (st.set k 1) (by omega) (by omega) (by omega) Xy (SY 1)) fun w hw=>?_
    obtain ⟨w1,w2,w3⟩:=w
    obtain ⟨rfl,rfl,hw1,qf⟩:=hw
    replace hw1:z2.length<w2.length:=hw1
    replace qf:w2.length<z2.length+2 ^ (P.al.length+1 - (k+1)):=qf
    refine db.Rm (x:=1) (by simp [HW]) ?_
    have Cz:c0.length<w2.length:=by omega
    refine db.Rm (x:=w2[c0.length]) (by simp [Cz]) ?_
    simp only [Int.toNat_natCast]
    refine db.Rm (x:=_) (List.getElem?_set_self Cz) ?_
    refine ⟨_,rfl,rfl,?_,by simp only [List.length_set]; omega,by simp only [List.length_set]; omega⟩
    simp only [List.set_set]
    apply List.ext_getElem?
    intro i
    by_cases hi:i=k
    ·subst hi; rw [List.getElem?_set_self HW,SA]
    ·rw [List.getElem?_set_ne (Ne.symm hi)]
theorem Oe {F:Nat} {P:eX} (hP:yU P) (hF:300<F) {found:Bool} {xX:Int}:db (Aj F P found xX) (fun _=>True):=by
 unfold Aj
 have hn:=hP.n
 have e:Kc (-1) (P.al.length:Int)=some (List.replicate P.al.length (-1)):=by
  unfold Kc; rw [if_pos ⟨by omega,by omega⟩]; simp
 rw [e]
 simp only [Option.bind_some]
 have hp:2 ^ (P.al.length+1 - 0)≤2 ^ 13:=Nat.pow_le_pow_right (by omega) (by omega)
 refine db.bind (P:=fun _=>True) ?_ fun z _=>⟨_,rfl,trivial⟩
 refine db.imp (Oo hP F 0 [] _ (by omega) (by omega) (by simp only [List.length_nil]; omega) ⟨by simp,fun x hx=>by have:=(List.mem_replicate.1 hx).2; omega⟩ (fun i _ hi=>by simp [hi])) fun _ _=>trivial
theorem EY {F:Nat} {P:eX} (hP:yU P) (hF:300<F) :
  db (uI F P) (fun z=>z.2=0∧(z.1.Found=true→Good P z.1)∧(z.1.Found=false→z.1.cN=[])∧∀ e,qG P.al.length 0 e→kL P e=true→z.1.Found=true∧z.1.iy≤fa P.al e):=by
 unfold uI
 rw [yT hP (by omega)]
 simp only [Option.bind_some,Bool.not_true,Bool.false_eq_true,if_false]
 refine db.bind (Oh hP (by omega) rfl) fun pl vQ=>?_
 refine db.bind (Oe hP hF) fun ns _=>?_
 exact ⟨_,rfl,rfl,vQ.1,fun hf=>by have e:=vQ.2.2.2 hf; show pl.cN=[]; rw [e],vQ.2.1⟩
end Go.Sh
namespace Go.Sh
open Go.L
theorem zx {F:Nat} {l:List Int} {v:Int} (hb:l.length<1000000) (hF:l.length<F):Gl F l v=some (decide (v ∈ l)):=by
 unfold Gl EA
 obtain ⟨r,h1,h2⟩:db (AG l v F 0) (fun r=>r ≥ 0 ↔ v ∈ l):=by
  refine e9 (a:=l) (L:=fun n i (_:Unit)=>AG l v n i) (fun i _=>v ∉ l.take i) (fun n i x s hx hI=>?_) (fun n s hI=>?_) hF (s0:=()) (by simp)
  ·have hi:i<l.length:=(List.getElem?_eq_some_iff.1 hx).1
   simp only [AG,JU,fA hx,if_true,ep hx,Option.bind_some,fm (show i<1000000 by omega)]
   by_cases hv:(v == x)=true
   ·rw [if_pos hv]
    have:v=x:=by simpa using hv
    exact .inl ⟨_,rfl,by rw [this]; simp [List.mem_of_getElem? hx]⟩
   ·rw [if_neg hv]
    refine .inr ⟨(),rfl,fun hm=>?_⟩
    rw [List.take_add_one,hx] at hm
    simp only [Option.toList_some,List.mem_append,List.mem_singleton] at hm
    exact hm.elim hI fun h=>hv (by simp [h])
  ·simp only [AG,JU,fz,Bool.false_eq_true,if_false]
   refine ⟨_,rfl,?_⟩
   rw [List.take_length] at hI
   simp [hI]
 rw [h1]
 simp only [Option.bind_some]
 congr 1
 rw [Bool.eq_iff_iff]; simp [h2]
theorem HJ {F:Nat} {l:List aS} {v:aS} (hb:l.length<1000000) (hF:l.length<F):JY F l v=some (decide (v ∈ l)):=by
 unfold JY Ez
 obtain ⟨r,h1,h2⟩:db (Az l v F 0) (fun r=>r ≥ 0 ↔ v ∈ l):=by
  refine e9 (a:=l) (L:=fun n i (_:Unit)=>Az l v n i) (fun i _=>v ∉ l.take i) (fun n i x s hx hI=>?_) (fun n s hI=>?_) hF (s0:=()) (by simp)
  ·have hi:i<l.length:=(List.getElem?_eq_some_iff.1 hx).1
   simp only [Az,JT,fA hx,if_true,ep hx,Option.bind_some,fm (show i<1000000 by omega)]
   by_cases hv:decide (v=x)=true
   ·rw [if_pos hv]
    have:v=x:=by simpa using hv
    exact .inl ⟨_,rfl,by rw [this]; simp [List.mem_of_getElem? hx]⟩
   ·rw [if_neg hv]
    refine .inr ⟨(),rfl,fun hm=>?_⟩
    rw [List.take_add_one,hx] at hm
    simp only [Option.toList_some,List.mem_append,List.mem_singleton] at hm
    exact hm.elim hI fun h=>hv (by simp [h])
  ·simp only [Az,JT,fz,Bool.false_eq_true,if_false]
   refine ⟨_,rfl,?_⟩
   rw [List.take_length] at hI
   simp [hI]
 rw [h1]
 simp only [Option.bind_some]
 congr 1
 rw [Bool.eq_iff_iff]; simp [h2]
theorem Kf {F:Nat} {l:List ab} {a b:Int} {p:ab→Option Int} (f:ab→Int) (hb:l.length<1000000) (hF:l.length<F) (hp:∀ x ∈ l,p x=some (f x)):sz F l a b p=some (aq.mk (l.map f) a b):=by
 unfold sz
 rw [k8 (by omega)]
 simp only [Option.bind_some]
 refine tH (a:=l) (L:=Dq l a b p) f (fun q=>aq.mk q a b) (fun n i x q q' hx hq=>?_) (fun n q=>?_) hF
 ·have hi:i<l.length:=(List.getElem?_eq_some_iff.1 hx).1
  have h1:(q++(0:Int) :: q')[i]?=some 0:=by rw [← hq]; simp
  have h2:(q++(0:Int) :: q').set i (f x)=q++f x :: q':=by rw [← hq]; simp
  simp only [Dq,AF,fA hx,if_true,ep hx,hp x (List.mem_of_getElem? hx),ep h1,Option.bind_some,fm (show i<1000000 by omega),Int.toNat_natCast,h2]
 ·simp only [Dq,AF,fz,Bool.false_eq_true,if_false]
def hJ (n i j:Nat):aq:=aq.mk (((List.replicate n (0:Int)).set i 1).set j 1) 0 1
def kG (n:Nat) (q:List aq):Prop:=∀ r ∈ q,∃ i j,i<j∧j<n∧r=hJ n i j
theorem K7 {F:Nat} {a b:ab} (hF:50<F) (ha:iD a=0) (hb:iD b=0):db (xC F a b) (fun _=>True):=by
 unfold xC
 obtain ⟨⟨_,sa1,sa2⟩,_⟩:=qX hF ha
 obtain ⟨⟨_,sb1,sb2⟩,_⟩:=qX hF hb
 rw [kI hF,kI hF]
 simp only [Option.bind_some,ha,hb]
 rw [zx sa1 sa2,zx sb1 sb2]
 simp only [show ((0:Int) != 0)=false from rfl,Bool.false_eq_true,if_false,Option.bind_some]
 refine db.ite (fun _=>⟨_,rfl,trivial⟩) fun _=>?_
 split <;> exact ⟨_,rfl,trivial⟩
theorem L1 {F:Nat} {l:List ab} {p0:List aq} (hF:100<F) (hl:l.length≤12) (h0:p0.length≤1000) (hk:∀ x ∈ l,iD x=0) :
  db (J1 F p0 l) (fun r=>∃ q,r=p0++q∧kG l.length q∧q.length≤l.length * l.length):=by
 unfold J1
 refine e9 (a:=l) (L:=L4 F l) (fun i s=>∃ q,s=p0++q∧kG l.length q∧q.length≤i * l.length) (fun n i x s hx hI=>.inr ?_) (fun n s hI=>?_) (by omega) ⟨[],by simp,by simp [kG],by simp⟩
 ·have hi : i < l.length := (List.getElem?_eq_some_iff.1 hx).1
  have hii:i * l.length≤12 * 12:=Nat.mul_le_mul (by omega) hl
  obtain ⟨q0,rfl,hq0,hq1⟩:=hI
  simp only [L4,JM,fA hx,if_true,fm (show i<1000000 by omega)]
  have inner : ∀ (d j m : Nat) (q : List aq), j + d = l.length → d < m → i < j → kG l.length q → q.length + d ≤ i * l.length + l.length →
    ∃ s',C1 (L4 F l n) F l (i:Int) m (j:Int) (p0++q)=L4 F l n ((i+1:Nat):Int) s'∧∃ q',s'=p0++q'∧kG l.length q'∧q'.length≤(i+1) * l.length:=by
   intro d
   induction d with
   | zero =>
    intro j m q hj hm tW hq O1
    cases m with
    | zero=>omega
    | succ m =>
     have:j=l.length:=by omega
     subst this
     refine ⟨p0++q,?_,q,rfl,hq,by rw [Nat.succ_mul]; omega⟩
     simp only [C1,JN,fz,Bool.false_eq_true,if_false,fm (show i<1000000 by omega)]
   | succ d ih =>
    intro j m q hj hm tW hq O1
    cases m with
    | zero=>omega
    | succ m =>
     have ny:j<l.length:=by omega
     have hy:l[j]?=some l[j]:=by simp [ny]
     obtain ⟨w,hw⟩:∃ w,((idx l (i:Int)).bind fun x9=>(idx l (j:Int)).bind fun lr=>if (x9.ID != lr.ID)=true then (idx l (i:Int)).bind fun iB=>(idx l (j:Int)).bind fun gF=>(xC F iB gF).bind fun ct=>some (!ct) else some false)=some w:=by
      rw [ep hx,ep hy]
      simp only [Option.bind_some]
      split
      ·obtain ⟨b,hb,_⟩:=K7 (F:=F) (by omega) (hk x (List.mem_of_getElem? hx)) (hk _ (List.mem_of_getElem? hy))
       exact ⟨_,by rw [hb]; rfl⟩
      ·exact ⟨_,rfl⟩
     simp only [C1,JN,fA hy,if_true,hw,Option.bind_some,fm (show j<1000000 by omega)]
     by_cases hw1:w=true
     ·rw [if_pos hw1]
      exact ih (j+1) m q (by omega) (by omega) (by omega) hq (by omega)
     ·rw [if_neg hw1,k8 (by omega)]
      have e1:idx (List.replicate l.length (0:Int)) (i:Int)=some 0:=ep (by simp [hi])
      have e2:idx ((List.replicate l.length (0:Int)).set i 1) (j:Int)=some 0:=ep (by rw [List.getElem?_set_ne (by omega)]; simp [ny])
      have e3:app (p0++q) [hJ l.length i j]=some (p0++(q++[hJ l.length i j])):=by
       rw [fh (by simp; omega),List.append_assoc]
      simp only [Option.bind_some,Int.toNat_natCast,e1,e2,G5]
      rw [show aq.mk (((List.replicate l.length (0:Int)).set i 1).set j 1) 0 1=hJ l.length i j from rfl,e3]
      simp only [Option.bind_some]
      refine ih (j+1) m (q++[hJ l.length i j]) (by omega) (by omega) (by omega) (fun r hr=>?_) (by simp; omega)
      rcases List.mem_append.1 hr with hr | hr
      ·exact hq r hr
      ·exact ⟨i,j,tW,ny,by simpa using hr⟩
  exact inner (l.length - (i+1)) (i+1) F q0 (by omega) (by omega) (by omega) hq0 (by omega)
 ·obtain ⟨q,rfl,hq,hq1⟩:=hI
  simp only [L4,JM,fz,Bool.false_eq_true,if_false]
  exact ⟨_,rfl,q,rfl,hq,hq1⟩
end Go.Sh
namespace Go.Sh
open Go.L
def total (x:ab):Int:=(x.aK.map (·.Max)).sum
def ti (x:ab):Prop:=iD x=0∧0≤total x∧total x≤200
theorem Kp {F:Nat} {l:List ag} (hl:l.length<F) (hb:l.length≤6) (hm:∀ p ∈ l,0≤p.Max∧p.Max≤40):uJ F l=some ((l.map (·.Max)).sum):=by
 unfold uJ
 obtain ⟨r,h1,rfl⟩:db (Bp l F 0 0) (fun r=>r=(l.map (·.Max)).sum):=by
  refine e9 (a:=l) (L:=fun n i (s:Int)=>Bp l n s i) (fun i s=>s=((l.take i).map (·.Max)).sum∧0≤s∧s≤40 * i) (fun n i x s hx hI=>.inr ?_) (fun n s hI=>?_) hl ⟨by simp,by omega,by omega⟩
  ·have hi:i<l.length:=(List.getElem?_eq_some_iff.1 hx).1
   have LC:=hm x (List.mem_of_getElem? hx)
   simp only [Bp,AH,fA hx,if_true,ep hx,Option.bind_some,fm (show i<1000000 by omega)]
   refine ⟨_,rfl,?_,?_,?_⟩
   ·rw [cL (by omega) (by omega),List.take_add_one,hx,hI.1]; simp
   ·rw [cL (by omega) (by omega)]; omega
   ·rw [cL (by omega) (by omega)]; omega
  ·simp only [Bp,AH,fz,Bool.false_eq_true,if_false]
   rw [List.take_length] at hI
   exact ⟨_,rfl,hI.1⟩
 exact h1
theorem wu {x:ab} (h:iD x=0):x.aK.length≤6∧∀ p ∈ x.aK,1≤p.Max∧p.Max≤40:=by
 unfold iD at h
 split at h
 ·cases h
 ·split at h
  ·cases h
  ·rename_i h2
   split at h
   ·cases h
   ·split at h
    ·cases h
    ·split at h
     ·rename_i h5
      refine ⟨by simp at h2; omega,fun p hp=>?_⟩
      have:=List.all_eq_true.1 h5 p hp
      unfold Ge at this
      simp at this
      omega
     ·cases h
theorem Mh {F:Nat} {x:ab} (hF:50<F) (h:iD x=0):uN F x=some (total x):=by
 unfold uN
 obtain ⟨h1,h2⟩:=wu h
 rw [kI hF]
 simp only [Option.bind_some,h,show ((0:Int) != 0)=false from rfl,Bool.false_eq_true,if_false]
 rw [Kp (by omega) h1 (fun p hp=>by have:=h2 p hp; omega)]
 rfl
abbrev rH (prev:List bG):qR:=qR.mk 1 2 0 200 [] [] [] prev 0
def pn (f:bG) (x:ab):Int:=if aS.mk x.ID x.Version ∈ f.Items then 1 else 0
def jl (l:List ab) (f:bG):aq:=aq.mk (l.map (pn f)) 0 0
theorem Q2 {F:Nat} {l:List ab} {prev:List bG} (hF:200<F) (hl:l.length≤5) (hp:prev.length≤1) (hf:∀ f ∈ prev,f.Items.length≤100) (hk:∀ x ∈ l,ti x) :
  db (Ba F (rH prev) l) (fun z=>z.2=0∧∃ q,kG l.length q∧q.length≤25∧z.1=aq.mk (l.map fun _=>1) 1 2 :: aq.mk (l.map total) 0 200 :: q++prev.map (jl l)):=by
 unfold Ba
 have e0:A5 F (rH prev)=some 0:=by
  unfold A5
  obtain ⟨F,rfl⟩:∃ k,F=k+1:=⟨F - 1,by omega⟩
  simp only [yD,Option.bind_some,rH,List.length_nil,Ag,JV,L5,AE,Ew]
  simp
  omega
 rw [e0]
 simp only [Option.bind_some,show ((0:Int) != 0)=false from rfl,Bool.false_eq_true,if_false]
 rw [if_neg (by simp; omega)]
 -- behind the X8 Wc
 have tail:db ((sz F l 1 2 (fun a0=>AZ a0)).bind fun r9=>(sz F l 0 200 (fun a0=>uN F a0)).bind fun ea=>(G5 ([]:List aq) [r9,ea]).bind fun da=>xd F (rH prev) l F 0 da)
   (fun z=>z.2=0∧∃ q,kG l.length q∧q.length≤25∧z.1=aq.mk (l.map fun _=>1) 1 2 :: aq.mk (l.map total) 0 200 :: q++prev.map (jl l)):=by
  rw [Kf (F:=F) (l:=l) (p:=fun a0=>AZ a0) (fun _=>(1:Int)) (by omega) (by omega) (fun x _=>rfl),Kf (F:=F) (l:=l) (p:=fun a0=>uN F a0) total (by omega) (by omega) (fun x hx=>Mh (by omega) (hk x hx).1)]
  simp only [Option.bind_some,G5]
  rw [fh (by simp)]
  simp only [Option.bind_some,List.nil_append]
  obtain ⟨G,rfl⟩:∃ k,F=k+1:=⟨F - 1,by omega⟩
  simp only [xd,EB,AR,EC,AS,ED,rH,List.length_nil]
  simp only [show decide ((0:Int)<((0:Nat):Int))=false by decide,Bool.false_eq_true,if_false]
  refine db.bind (L1 (by omega) (by omega) (by simp) (fun x hx=>(hk x hx).1)) fun EU hr=>?_
  obtain ⟨q,rfl,hq,hq1⟩:=hr
  have hq2:q.length≤25:=Nat.le_trans hq1 (Nat.le_trans (Nat.mul_le_mul hl hl) (by decide))
  refine e9 (a:=prev) (L:=Dj (G+1) (rH prev) l) (fun i s=>s=[aq.mk (l.map fun _=>1) 1 2,aq.mk (l.map total) 0 200]++q++(prev.take i).map (jl l)) (fun n i f s hx hI=>.inr ?_) (fun n s hI=>?_) (by omega) (by simp)
  ·have hi:i<prev.length:=(List.getElem?_eq_some_iff.1 hx).1
   have hff:=hf f (List.mem_of_getElem? hx)
   have hlen:s.length≤100:=by rw [hI]; simp; omega
   simp only [Dj,Aw,fA hx,if_true,ep hx,Option.bind_some,fm (show i<1000000 by omega)]
   rw [Kf (pn f) (by omega) (by omega) (fun x _=>by
    unfold EK Bh pn
    rw [HJ (by omega) (by omega)]
    simp only [Option.bind_some]
    by_cases h:aS.mk x.ID x.Version ∈ f.Items
    ·simp [h]
    ·simp [h])]
   simp only [Option.bind_some,G5]
   rw [fh (by simp; omega)]
   refine ⟨_,rfl,?_⟩
   rw [hI,List.take_add_one,hx]
   simp [jl]
  ·simp only [Dj,Aw,fz,Bool.false_eq_true,if_false]
   rw [List.take_length] at hI
   have hlen:s.length≤60:=by rw [hI]; simp; omega
   rw [if_neg (by simp; omega)]
   exact ⟨_,rfl,rfl,q,hq,hq2,by rw [hI]; simp⟩
 refine e9 (a:=l) (L:=fun n i (_:Unit)=>Di F (rH prev) l n i) (fun _ _=>True) (fun n i x s hx _=>.inr ?_) (fun n s _=>?_) (by omega) (s0:=()) trivial
 ·have hi:i<l.length:=(List.getElem?_eq_some_iff.1 hx).1
  simp only [Di,Av,fA hx,if_true,ep hx,Option.bind_some,fm (show i<1000000 by omega),kI (F:=F) (x:=x) (by omega),(hk x (List.mem_of_getElem? hx)).1,show ((0:Int) != 0)=false from rfl,Bool.false_eq_true,if_false]
  exact ⟨(),trivial,trivial⟩
 ·simp only [Di,Av,fz,Bool.false_eq_true,if_false]
  exact tail
end Go.Sh
namespace Go.Sh
open Go.L
structure pb (l:List ab) (prev:List bG) (P:eX):Prop where
 n:P.al.length=l.length
 c:∀ x ∈ P.al,0≤x∧x≤10000
 rows:∃ q,kG l.length q∧q.length≤25∧P.Rows=aq.mk (l.map fun _=>1) 1 2 :: aq.mk (l.map total) 0 200 :: q++prev.map (jl l)
theorem xa {F:Nat} {l:List ab} {prev:List bG} {ka:List Int} (hF:200<F) (hl:l.length≤5) (hp:prev.length≤1) (hf:∀ f ∈ prev,f.Items.length≤100) (hk:∀ x ∈ l,ti x) (hc:ka.length=l.length) (hcs:∀ x ∈ ka,0≤x∧x≤10000) :
  db (Dm F (rH prev) l ka) (fun z=>z.2=0∧pb l prev z.1):=by
 unfold Dm
 refine db.bind (Q2 hF hl hp hf hk) fun r1 hr=>?_
 rw [if_neg (by simp [hr.1]),if_neg (by simp [hc])]
 refine e9 (a:=ka) (L:=fun n i (_:Unit)=>C8 ka r1 n i) (fun _ _=>True) (fun n i x s hx _=>.inr ?_) (fun n s _=>?_) (by omega) (s0:=()) trivial
 ·have hi:i<ka.length:=(List.getElem?_eq_some_iff.1 hx).1
  have LC:=hcs x (List.mem_of_getElem? hx)
  have e1:(decide (x<0) || decide (x > 10000))=false:=by simp; omega
  simp only [C8,J6,fA hx,if_true,ep hx,Option.bind_some,fm (show i<1000000 by omega),e1,Bool.false_eq_true,if_false]
  exact ⟨(),trivial,trivial⟩
 ·simp only [C8,J6,fz,Bool.false_eq_true,if_false]
  rw [fh (by simp; omega)]
  exact ⟨_,rfl,rfl,⟨by simpa using hc,by simpa using hcs,hr.2⟩⟩
theorem sO {α:Type} (f:α→Int) {l:List α} {i:Nat} {x:α} (h:l[i]?=some x):pX (l.map f) (i:Int)=f x:=by simp [pX,List.getD,h]
theorem Es (n i j k:Nat):pX (hJ n i j).cu (k:Int)=0 ∨ pX (hJ n i j).cu (k:Int)=1:=by
 simp only [pX,hJ,Int.toNat_natCast,List.getD,List.getElem?_set,List.length_set,List.length_replicate,List.getElem?_replicate]
 split <;> split <;> (try split) <;> (try split) <;> simp_all
theorem Jt {n i j:Nat}:∀ x ∈ (hJ n i j).cu,x=0 ∨ x=1:=by
 intro x hx
 obtain ⟨k,hk⟩:=List.mem_iff_getElem?.1 hx
 have:=Es n i j k
 simp only [pX,Int.toNat_natCast,List.getD,hk,Option.getD_some] at this
 exact this
theorem Eb (f:bG) (x:ab):pn f x=0 ∨ pn f x=1:=by unfold pn; split <;> simp
theorem pb.ok {l:List ab} {prev:List bG} {P:eX} (h:pb l prev P) (hl:l.length≤5) (hp:prev.length≤1) (hk:∀ x ∈ l,ti x):yU P:=by
 obtain ⟨q,hq,hq1,hr⟩:=h.rows
 have Ci:∀ r ∈ P.Rows,r=aq.mk (l.map fun _=>1) 1 2 ∨ r=aq.mk (l.map total) 0 200 ∨ r ∈ q ∨ ∃ f ∈ prev,r=jl l f:=by
  intro r hm
  rw [hr] at hm
  simp only [List.cons_append,List.mem_cons,List.mem_append,List.mem_map] at hm
  rcases hm with h | h | h | ⟨f,hf,h⟩
  ·exact .inl h
  ·exact .inr (.inl h)
  ·exact .inr (.inr (.inl h))
  ·exact .inr (.inr (.inr ⟨f,hf,h.symm⟩))
 refine ⟨by rw [h.n]; omega,by rw [hr]; simp; omega,h.c,fun r hm=>?_,fun r hm=>?_,fun r hm=>?_⟩
 ·rcases Ci r hm with rfl | rfl | hm | ⟨f,_,rfl⟩
  ·simp [h.n]
  ·simp [h.n]
  ·obtain ⟨i,j,_,_,rfl⟩:=hq r hm; simp [hJ,h.n]
  ·simp [jl,h.n]
 ·rcases Ci r hm with rfl | rfl | hm | ⟨f,_,rfl⟩
  ·intro x hx; simp at hx; omega
  ·intro x hx
   obtain ⟨y,hy,rfl⟩:=List.mem_map.1 hx
   have:=hk y hy; unfold ti at this; omega
  ·obtain ⟨i,j,_,_,rfl⟩:=hq r hm
   intro x hx; rcases Jt x hx with rfl | rfl <;> omega
  ·intro x hx
   obtain ⟨y,hy,rfl⟩:=List.mem_map.1 hx
   rcases Eb f y with h | h <;> rw [h] <;> omega
 ·rcases Ci r hm with rfl | rfl | hm | ⟨f,_,rfl⟩
  ·simp
  ·simp
  ·obtain ⟨i,j,_,_,rfl⟩:=hq r hm; simp [hJ]
  ·simp [jl]
theorem GI (l:List Int) (i:Int):fa l [i]=pX l i:=by simp [fa]
theorem I7 {l:List ab} {prev:List bG} {P:eX} (h:pb l prev P) (hk:∀ x ∈ l,ti x) {i:Nat} {x:ab} (hx:l[i]?=some x) (hv:∀ f ∈ prev,pn f x=0):kL P [(i:Int)]=true:=by
 obtain ⟨q,hq,hq1,hr⟩:=h.rows
 unfold kL
 rw [hr]
 simp only [List.all_eq_true,List.cons_append,List.mem_cons,List.mem_append,List.mem_map,GI]
 rintro r (rfl | rfl | hm | ⟨f,hf,rfl⟩)
 ·rw [sO _ hx]; simp
 ·rw [sO _ hx]
  have:=hk x (List.mem_of_getElem? hx)
  unfold ti at this
  simp; omega
 ·obtain ⟨a,b,_,_,rfl⟩:=hq r hm
  rcases Es l.length a b i with h | h <;> rw [h] <;> simp [hJ]
 ·show (!(decide (pX (l.map (pn f)) (i:Int)<0) || decide (pX (l.map (pn f)) (i:Int) > 0)))=true
  rw [sO _ hx,hv f hf]; simp
theorem I6 {l:List ab} {prev:List bG} {P:eX} (h:pb l prev P):kL P []=false:=by
 obtain ⟨q,hq,hq1,hr⟩:=h.rows
 unfold kL
 rw [hr]
 simp [fa]
theorem Kq {l:List Int} (h:∀ x ∈ l,0≤x):∀ {c:List Int},0≤fa l c∧(fa l c≤0→∀ i ∈ c,pX l i=0)
 | []=>by simp [fa]
 | i :: c=>by
  have h1:0≤pX l i:=by
   unfold pX
   rw [List.getD_eq_getElem?_getD]
   cases hx:l[i.toNat]? with
   | none=>simp
   | some x=>exact h x (List.mem_of_getElem? hx)
  obtain ⟨h2,h3⟩:=Kq h (c:=c)
  simp only [fa]
  refine ⟨by omega,fun h4 j hj=>?_⟩
  rcases List.mem_cons.1 hj with rfl | hj
  ·omega
  ·exact h3 (by omega) j hj
theorem wT {l:List ab} {prev:List bG} {P:eX} (h:pb l prev P) {c:List Int} (hm:kL P c=true) {f:bG} (hf:f ∈ prev) {i:Nat} {x:ab} (hi:(i:Int) ∈ c) (hx:l[i]?=some x):pn f x=0:=by
 obtain ⟨q,hq,hq1,hr⟩:=h.rows
 unfold kL at hm
 rw [hr] at hm
 have h1:=List.all_eq_true.1 hm (jl l f) (by simp only [List.cons_append,List.mem_cons,List.mem_append,List.mem_map]; exact .inr (.inr (.inr ⟨f,hf,rfl⟩)))
 simp only [jl,Bool.not_eq_true',Bool.or_eq_false_iff,decide_eq_false_iff_not,gt_iff_lt,Int.not_lt] at h1
 have h2:=(Kq (l:=l.map (pn f)) (fun y hy=>by obtain ⟨z,_,rfl⟩:=List.mem_map.1 hy; rcases Eb f z with h | h <;> rw [h] <;> omega) (c:=c)).2 h1.2 _ hi
 rw [sO _ hx] at h2
 exact h2
end Go.Sh
namespace Go.Sh
open Go.L
theorem qG.get {n:Nat}:∀ {l:List Int} {k:Nat},qG n k l→∀ (i:Nat) x,l[i]?=some x→∃ j:Nat,x=(j:Int)∧k+i≤j∧j<n∧∀ y,0<i→l[i - 1]?=some y→y<x
 | a :: l,k,⟨j,h0,h1,h2,h3⟩,i,x,hx=>by
  cases i with
  | zero =>
   simp only [List.getElem?_cons_zero,Option.some.injEq] at hx
   subst hx
   exact ⟨j,h0,by omega,h2,fun y hy=>by omega⟩
  | succ i =>
   simp only [List.getElem?_cons_succ] at hx
   obtain ⟨j',e,g1,g2,g3⟩:=h3.get i x hx
   refine ⟨j',e,by omega,g2,fun y _ hy=>?_⟩
   cases i with
   | zero =>
    simp only [Nat.zero_add,Nat.sub_self,List.getElem?_cons_zero,Option.some.injEq] at hy
    subst hy; omega
   | succ i =>
    simp only [Nat.add_sub_cancel,List.getElem?_cons_succ] at hy
    exact g3 y (by omega) (by simpa using hy)
theorem CP {F n:Nat} {c:List Int} (h:qG n 0 c) (hn:n≤100) (hF:200<F):AO F c (n:Int)=some true:=by
 unfold AO
 have hl:=h.len (by omega)
 have:=gx (a:=c) (L:=C6 c (n:Int)) (F:=F) (fun _ _=>(.none:Option Bool)) true (by omega) (fun m i x hx hi=>?_) (fun m=>?_) (by omega)
 ·rw [this]
  congr 1
  have key:∀ (l:List Int) (i:Nat),scan (fun _ _=>(.none:Option Bool)) true i l=true:=by
   intro l
   induction l with
   | nil=>intro i; rfl
   | cons x l ih=>intro i; exact ih (i+1)
  exact key _ _
 ·obtain ⟨j,rfl,h1,h2,h3⟩:=h.get i x hx
  have e1:decide ((j:Int)<0)=false:=decide_eq_false (by omega)
  have e2:decide ((j:Int) ≥ (n:Int))=false:=decide_eq_false (by omega)
  simp only [C6,J0,fA hx,if_true,ep hx,Option.bind_some,fm hi,e1,e2,Bool.false_eq_true,if_false]
  by_cases h0:0<i
  ·have rP:i - 1<c.length:=by have:=(List.getElem?_eq_some_iff.1 hx).1; omega
   have hy:c[i - 1]?=some c[i - 1]:=by simp [rP]
   have h4:=h3 _ h0 hy
   have e3:decide ((i:Int) > 0)=true:=decide_eq_true (by omega)
   have e4:idx c (i64 ((i:Int) - 1))=some c[i - 1]:=by
    rw [cL (by omega) (by omega),show (i:Int) - 1=((i - 1:Nat):Int) by omega]; exact ep hy
   have e5:decide (c[i - 1] ≥ (j:Int))=false:=decide_eq_false (by omega)
   simp only [e3,if_true,e4,Option.bind_some,e5,Bool.false_eq_true,if_false]
  ·have e3:decide ((i:Int) > 0)=false:=decide_eq_false (by omega)
   simp only [e3,Bool.false_eq_true,if_false,Option.bind_some]
 ·simp only [C6,J0,fz,Bool.false_eq_true,if_false]
def dV (x:ab):aS:=aS.mk x.ID x.Version
def gu (l:List ab) (i:Int):aS:=match l[i.toNat]? with | some x=>dV x | .none=>aS.mk 0 0
theorem Om {F:Nat} {l:List ab} {c:List Int} (hF:200<F) (hl:l.length≤100) (hk:∀ x ∈ l,iD x=0) (hc:qG l.length 0 c):Be F l c 900=some (bG.mk 900 (c.map (gu l)),0):=by
 unfold Be
 have hcl:=hc.len (by omega)
 rw [CP hc hl hF]
 simp only [show decide ((900:Int)<0)=false by decide,show decide ((900:Int) > 9999)=false by decide,Bool.false_eq_true,if_false,Option.bind_some,Bool.not_true]
 obtain ⟨r,h1,rfl⟩:db (Bn F l c 900 F 0 ([]:List aS)) (fun r=>r=(bG.mk 900 (c.map (gu l)),0)):=by
  refine e9 (a:=c) (L:=Bn F l c 900) (fun i s=>s=(c.take i).map (gu l)) (fun n i x s hx hI=>.inr ?_) (fun n s hI=>?_) (by omega) (by simp)
  ·obtain ⟨j,rfl,g1,g2,_⟩:=hc.get i x hx
   have hi:i<c.length:=(List.getElem?_eq_some_iff.1 hx).1
   have hy:l[j]?=some l[j]:=by simp [g2]
   have hs:s.length≤100:=by rw [hI]; simp; omega
   simp only [Bn,AA,fA hx,if_true,ep hx,ep hy,Option.bind_some,fm (show i<1000000 by omega),kI (F:=F) (x:=l[j]) (by omega),hk _ (List.mem_of_getElem? hy),show ((0:Int) != 0)=false from rfl,Bool.false_eq_true,if_false]
   rw [fh (by simp; omega)]
   refine ⟨_,rfl,?_⟩
   rw [hI,List.take_add_one,hx]
   simp [gu,g2,dV]
  ·simp only [Bn,AA,fz,Bool.false_eq_true,if_false]
   rw [List.take_length] at hI
   exact ⟨_,rfl,by rw [hI]⟩
 exact h1
end Go.Sh
namespace Go.Sh
open Go.L
structure nu (l:List ay):Prop where
 val:hY l
 Pv:∀ r ∈ l,0≤r.ID∧r.ID<5
 it:∀ r ∈ l,∀ x ∈ r.ah,ti x
 us:∀ r ∈ l,r.Uses.length≤9∧∀ u ∈ r.Uses,u.Time≤100∧u.Form ≠ 900
theorem uU:∀ (l:List ay) (a b:Nat),a≤b→gG l→(∀ r ∈ l,(a:Int)≤r.ID∧r.ID<(b:Int))→l.length+a≤b
 | [],a,b,nf,_,_=>by simpa using nf
 | r :: l,a,b,nf,hs,hr=>by
  have h1:=hr r (by simp)
  unfold gG at hs
  obtain ⟨h2,h3⟩:=List.pairwise_cons.1 hs
  have:=uU l (a+1) b (by omega) h3 fun x hx=>by
   have:=h2 x hx; have:=hr x (by simp [hx]); omega
  simp only [List.length_cons]; omega
theorem nu.len {l:List ay} (h:nu l):l.length≤5:=by
 have:=uU l 0 5 (by omega) h.val.sort (fun r hr=>by have:=h.Pv r hr; omega)
 omega
def iV (r:ay):Option ab:=if r.ao=true then .none else (lN r.au r.au.length).bind fun j=>r.ah[j]?
theorem ko {r:ay} (hr:nE r):∀ {x:ab},iV r=some x→x ∈ r.ah∧x.ID=r.ID∧∃ j:Nat,r.ah[j]?=some x∧x.Version=(j:Int)+1∧lN r.au r.au.length=some j∧r.ao=false:=by
 intro x h
 unfold iV at h
 split at h
 ·cases h
 ·rename_i hw
  cases hl:lN r.au r.au.length with
  | none=>rw [hl] at h; cases h
  | some j =>
   rw [hl] at h
   simp only [Option.bind_some] at h
   have:=hr.vs j x h
   exact ⟨List.mem_of_getElem? h,this.2.1,j,h,this.2.2,rfl,by simpa using hw⟩
theorem F6 {r:ay} (hr:nE r):(if r.ao=true then .none else (lN r.au r.au.length).map fun (j:Nat)=>(⟨r.ID,(j:Int)+1⟩:aS))=(iV r).map dV:=by
 unfold iV
 split
 ·rfl
 ·cases hl:lN r.au r.au.length with
  | none=>rfl
  | some j =>
   have hj:=(pD hl).1
   rw [hr.ap] at hj
   have hx:r.ah[j]?=some r.ah[j]:=by simp [hj]
   simp only [Option.map_some,Option.bind_some,hx]
   have:=hr.vs j _ hx
   simp [dV,this.2.1,this.2.2]
theorem D5 {r:ay} (hr:nE r) {time rest ic:Int} (h1:(r.Uses.length:Int)≤ic) (h2:∀ u ∈ r.Uses,u.Time≤time - rest):GQ time rest ic r=(iV r).map dV:=by
 rw [← F6 hr]
 unfold GQ
 have e:r.Uses.any (fun u=>decide (u.Time > time - rest))=false:=by
  rw [List.any_eq_false]; intro u hu; have:=h2 u hu; simp; omega
 by_cases hw:r.ao=true
 ·simp [hw]
 ·rw [if_neg (by simp [hw]; omega),e,if_neg hw]
  simp
theorem tL {α β:Type} {f g:α→Option β}:∀ {l:List α},(∀ x ∈ l,f x=g x)→l.filterMap f=l.filterMap g
 | [],_=>rfl
 | x :: l,h=>by
  have h1:=h x (by simp)
  have h2:=tL (l:=l) fun y hy=>h y (by simp [hy])
  simp only [List.filterMap_cons,h1,h2]
def bL (l:List ay):List ab:=l.filterMap iV
theorem R2 {l:List ay} (h:nu l):p6 l 100 0 9=(bL l).map dV:=by
 unfold p6
 rw [if_neg (by rw [im.2 h.val]; decide)]
 unfold bL
 rw [List.map_filterMap]
 refine tL fun r hr=>?_
 exact D5 (h.val.ok r hr) (by have:=(h.us r hr).1; omega) (fun u hu=>by have:=((h.us r hr).2 u hu).1; omega)
theorem KG {l:List ay} (h:nu l) {x:ab} (hx:x ∈ bL l):GP l x.ID x.Version=(x,true):=by
 unfold bL at hx
 obtain ⟨r,hr,hi⟩:=List.mem_filterMap.1 hx
 obtain ⟨h1,h2,j,h3,h4,_,_⟩:=ko (h.val.ok r hr) hi
 have St:l.find? (fun q=>decide (q.ID=x.ID))=some r:=by
  have key:∀ (l:List ay),gG l→r ∈ l→l.find? (fun q=>decide (q.ID=x.ID))=some r:=by
   intro l
   induction l with
   | nil=>intro _ h; cases h
   | cons q l ih =>
    intro hs hm
    unfold gG at hs
    obtain ⟨g1,g2⟩:=List.pairwise_cons.1 hs
    rcases List.mem_cons.1 hm with rfl | hm
    ·simp [h2]
    ·have:=g1 r hm
     rw [List.find?_cons_of_neg (by simp; omega)]
     exact ih g2 hm
  exact key l h.val.sort hr
 unfold GP
 rw [St]
 have hj:j<r.ah.length:=(List.getElem?_eq_some_iff.1 h3).1
 have e:(x.Version - 1).toNat=j:=by omega
 simp only
 rw [if_neg (by omega),e,List.getD_eq_getElem?_getD,h3]
 rfl
end Go.Sh
namespace Go.Sh
open Go.L
theorem mn {l:List ay} (h:nu l):(bL l).length≤5:=Nat.le_trans (List.length_filterMap_le _ _) h.len
theorem wP {l:List ay} (h:nu l):∀ x ∈ bL l,ti x:=fun x hx=>by
 unfold bL at hx
 obtain ⟨r,hr,hi⟩:=List.mem_filterMap.1 hx
 exact h.it r hr x (ko (h.val.ok r hr) hi).1
theorem zP {l:List ay} (h:nu l):(bL l).Pairwise fun a b=>a.ID<b.ID:=by
 have key:∀ (l:List ay),gG l→(∀ r ∈ l,nE r)→(bL l).Pairwise fun a b=>a.ID<b.ID:=by
  intro l
  induction l with
  | nil=>intro _ _; simp [bL]
  | cons r l ih =>
   intro hs hk
   unfold gG at hs
   obtain ⟨h1,h2⟩:=List.pairwise_cons.1 hs
   have h3:=ih h2 fun q hq=>hk q (by simp [hq])
   unfold bL
   rw [List.filterMap_cons]
   cases hi:iV r with
   | none=>exact h3
   | some x =>
    refine List.pairwise_cons.2 ⟨fun y hy=>?_,h3⟩
    obtain ⟨q,hq,LA⟩:=List.mem_filterMap.1 hy
    have e1:=(ko (hk r (by simp)) hi).2.1
    have e2:=(ko (hk q (by simp [hq])) LA).2.1
    have:=h1 q hq
    omega
 exact key l h.val.sort h.val.ok
theorem Hq {F:Nat} (hF:500<F) {ev:List ba} {l:List ay} {rf:List fc} {code:Int} (wB:iq F ev 1000000=some (⟨l⟩,rf,code)) (h:nu l) :
  AN F ev 100 0 9=some (⟨l⟩,bL l,code == 0):=by
 unfold AN
 rw [wB]
 simp only [Option.bind_some,pe (show 400<F by omega),R2 h]
 have hn:=mn h
 obtain ⟨r,h1,rfl⟩:db (A3 F (⟨l⟩,rf,code) ((bL l).map dV) F 0 ([]:List ab)) (fun r=>r=(⟨l⟩,bL l,code == 0)):=by
  have hml:((bL l).map dV).length=(bL l).length:=by simp
  refine e9 (a:=(bL l).map dV) (L:=A3 F (⟨l⟩,rf,code) ((bL l).map dV)) (fun i s=>s=(bL l).take i) (fun n i x s hx hI=>.inr ?_) (fun n s hI=>?_) (by omega) (by simp)
  ·have hi:i<(bL l).length:=by have:=(List.getElem?_eq_some_iff.1 hx).1; omega
   have hy:(bL l)[i]?=some (bL l)[i]:=by simp [hi]
   have hxe:x=dV (bL l)[i]:=by
    rw [List.getElem?_map,hy] at hx; simpa using hx.symm
   have hv:=KG h (List.mem_of_getElem? hy)
   have hs:s.length≤5:=by rw [hI]; simp; omega
   simp only [A3,JZ,fA hx,if_true,ep hx,Option.bind_some,fm (show i<1000000 by omega),vq (h.val.sh (show 400<F by omega))]
   rw [hxe]
   simp only [dV,hv,Bool.not_true,Bool.false_eq_true,if_false,bne_self_eq_false,Option.bind_some]
   rw [fh (by simp; omega)]
   exact ⟨_,rfl,by rw [hI,List.take_add_one,hy]; simp⟩
  ·simp only [A3,JZ,fz,Bool.false_eq_true,if_false]
   rw [hml,List.take_length] at hI
   exact ⟨_,rfl,by rw [hI]⟩
 exact h1
def pO (f:aS):ba:=ba.mk (bE.mk 200 0 0) 4 (ab.mk 0 0 (ByteArray.mk #[]) ([]:List ag) ([]:List Int)) f 900
def qE (r:ay) (v:Int):ay:=⟨r.ID,r.ah,r.au,r.Uses++[⟨v,900,200⟩],r.ao⟩
theorem CU (r:ay) (v:Int):iV (qE r v)=iV r:=rfl
theorem KD {l:List ay} {k:Nat} {r:ay} {x:ab} (h:hY l) (hk:l[k]?=some r) (hi:iV r=some x) (hu:r.Uses.length≤10∧∀ u ∈ r.Uses,u.Form ≠ 900) :
  dO l (pO (dV x))=(0,l.set k (qE r x.Version)):=by
 have hr:=h.ok r (List.mem_of_getElem? hk)
 obtain ⟨h1,h2,j,h3,h4,h5,h6⟩:=ko hr hi
 have BU:k<l.length:=(List.getElem?_eq_some_iff.1 hk).1
 have hj:j<r.ah.length:=(List.getElem?_eq_some_iff.1 h3).1
 have CE:dU l x.ID=some k:=by
  cases hp:dU l x.ID with
  | none =>
   have:=rV hp r (List.mem_of_getElem? hk)
   exact absurd h2.symm this
  | some q =>
   obtain ⟨hq,hq2⟩:=gq hp
   by_cases SL:q=k
   ·rw [SL]
   ·exfalso
    have hs:=h.sort
    unfold gG at hs
    have e:l[k]=r:=by have:=(List.getElem?_eq_some_iff.1 hk).2; exact this
    rcases Nat.lt_or_ge q k with hlt | WM
    ·have:=List.pairwise_iff_getElem.1 hs q k hq BU hlt
     rw [e] at this; omega
    ·have:=List.pairwise_iff_getElem.1 hs k q BU hq (by omega)
     rw [e] at this; omega
 have hl:=(pD h5).2.1
 have Ss:kb r (pO (dV x))=(0,qE r x.Version):=by
  unfold kb
  have OQ:(pO (dV x)).Kind=4:=rfl
  rw [if_neg (by rw [OQ]; decide),if_neg (by rw [OQ]; decide),if_pos OQ]
  have e1:¬ qU (pO (dV x)) r:=by unfold qU pO dV; simp only; omega
  have e2:vH (pO (dV x)) r=true:=by
   unfold vH pO dV
   simp only
   rw [show (x.Version - 1).toNat=j by omega]; exact hl
  have e3:r.Uses.any (fun u=>u.Form == (pO (dV x)).Form)=false:=by
   rw [List.any_eq_false]; intro u vz; have:=hu.2 u vz; simpa [pO] using this
  rw [if_neg e1,if_neg (by rw [h6,e2]; simp),e3,if_neg (by simp),if_neg (by omega)]
  rfl
 unfold dO
 have OQ:(pO (dV x)).Kind=4:=rfl
 rw [if_neg (by rw [OQ]; decide),if_neg (by rw [OQ]; decide),if_pos (.inr (.inl OQ))]
 unfold nJ
 have ht:NN (pO (dV x))=x.ID:=rfl
 rw [ht,CE]
 simp only [hk,Ss,if_true]
end Go.Sh
namespace Go.Sh
open Go.L
theorem xJ {α:Type} [DecidableEq α] {S L:List α} (h:S.Sublist L) (hn:L.Nodup):(L.filter fun x=>!decide (x ∈ S)).length+S.length=L.length:=by
 induction h with
 | slnil=>rfl
 | @cons S L x h ih =>
  obtain ⟨h1,h2⟩:=List.nodup_cons.1 hn
  have h3:x ∉ S:=fun hx=>h1 (h.subset hx)
  rw [List.filter_cons_of_pos (by simp [h3])]
  have:=ih h2
  simp only [List.length_cons]; omega
 | @cons_cons S L x h ih =>
  obtain ⟨h1,h2⟩:=List.nodup_cons.1 hn
  rw [List.filter_cons_of_neg (by simp)]
  have e:L.filter (fun y=>!decide (y ∈ x :: S))=L.filter (fun y=>!decide (y ∈ S)):=by
   apply List.filter_congr
   intro y hy
   have:y ≠ x:=fun G3=>h1 (G3 ▸ hy)
   simp [this]
  rw [e]
  have:=ih h2
  simp only [List.length_cons]; omega
theorem xW {L:List ab}:∀ {c:List Int} {k:Nat},qG L.length k c→(c.map (gu L)).Sublist ((L.drop k).map dV)
 | [],k,_=>by simp
 | i :: c,k,⟨j,h0,h1,h2,h3⟩=>by
  have e:L.drop j=L[j] :: L.drop (j+1):=List.drop_eq_getElem_cons h2
  have h4:((i :: c).map (gu L)).Sublist ((L.drop j).map dV):=by
   rw [e,List.map_cons,List.map_cons,h0]
   have:gu L (j:Int)=dV L[j]:=by simp [gu,h2]
   rw [this]
   exact (xW h3).cons_cons _
  refine h4.trans ?_
  have e2:L.drop j=(L.drop k).drop (j - k):=by rw [List.drop_drop]; congr 1; omega
  rw [e2]
  exact (List.drop_sublist _ _).map _
theorem uP {l:List ay} (h:nu l):((bL l).map dV).Nodup:=by
 have:=zP h
 unfold List.Nodup
 rw [List.pairwise_map]
 exact this.imp fun {a b} nf=>fun he=>by
  have:a.ID=b.ID:=by have:=congrArg aS.ID he; simpa [dV] using this
  omega
def ei (S:List aS) (r:ay):ay:=match iV r with
 | some x=>if dV x ∈ S then qE r x.Version else r
 | .none=>r
theorem F8 (r:ay):ei [] r=r:=by unfold ei; cases iV r <;> simp
theorem CT (S:List aS) (r:ay):iV (ei S r)=iV r:=by
  unfold ei
  cases h:iV r with
  | none=>exact h
  | some x => simp only; split
              · rw [CU]; exact h
              · exact h
theorem wj {l:List ay} (h:nu l) {S:List aS} {x:ab} (hx:x ∈ bL l) (hS:dV x ∉ S) (hv:hY (l.map (ei S))) :
  dO (l.map (ei S)) (pO (dV x))=(0,l.map (ei (S++[dV x]))):=by
 unfold bL at hx
 obtain ⟨r,hr,hi⟩:=List.mem_filterMap.1 hx
 obtain ⟨k,hk⟩:=List.mem_iff_getElem?.1 hr
 have hm:ei S r=r:=by unfold ei; rw [hi]; simp [hS]
 have WS:(l.map (ei S))[k]?=some r:=by rw [List.getElem?_map,hk]; simp [hm]
 have hu:=h.us r hr
 rw [KD hv WS hi ⟨by omega,fun u vz=>(hu.2 u vz).2⟩]
 congr 1
 apply List.ext_getElem?
 intro q
 have BU:k<l.length:=(List.getElem?_eq_some_iff.1 hk).1
 by_cases hq:q=k
 ·subst hq
  rw [List.getElem?_set_self (by simpa using BU),List.getElem?_map,hk]
  simp only [Option.map_some]
  unfold ei
  rw [hi]
  simp
 ·rw [List.getElem?_set_ne (Ne.symm hq), List.getElem?_map, List.getElem?_map]
  cases WX:l[q]? with
  | none=>rfl
  | some r' =>
   simp only [Option.map_some]
   congr 1
   have kJ:=List.mem_of_getElem? WX
   unfold ei
   cases fD:iV r' with
   | none=>rfl
   | some x' =>
    have e1:=(ko (h.val.ok r hr) hi).2.1
    have e2:=(ko (h.val.ok r' kJ) fD).2.1
    have eE:dV x' ≠ dV x:=fun he=>by
     have e3:x'.ID=x.ID:=by have:=congrArg aS.ID he; simpa [dV] using this
     have O1:q<l.length:=(List.getElem?_eq_some_iff.1 WX).1
     have hs:=h.val.sort
     unfold gG at hs
     have g1:=(List.getElem?_eq_some_iff.1 hk).2
     have g2:=(List.getElem?_eq_some_iff.1 WX).2
     rcases Nat.lt_or_ge q k with hlt | WM
     ·have:=List.pairwise_iff_getElem.1 hs q k O1 BU hlt
      rw [g1,g2] at this; omega
     ·have:=List.pairwise_iff_getElem.1 hs k q BU O1 (by omega)
      rw [g1,g2] at this; omega
    simp [eE]
theorem I5 {l:List ay} (h:nu l) {S:List aS} {x:ab} (hx:x ∈ bL l) (hS:dV x ∉ S) (hv:hY (l.map (ei S))):hY (l.map (ei (S++[dV x]))):=by
 have:=rD (e:=pO (dV x)) hv
 rw [wj h hx hS hv] at this
 exact this
theorem wS {l:List ay} (h:nu l) {S:List aS} {r:ay} (hr:r ∈ l):(ei S r).Uses.length≤10∧∀ u ∈ (ei S r).Uses,u.Time≤200:=by
 have hu:=h.us r hr
 unfold ei
 cases hi:iV r with
 | none=>exact ⟨Nat.le_trans hu.1 (by decide),fun u vz=>by have:=(hu.2 u vz).1; omega⟩
 | some x =>
  simp only
  split
  ·refine ⟨by simp [qE]; omega,fun u vz=>?_⟩
   simp only [qE,List.mem_append,List.mem_singleton] at vz
   rcases vz with vz | rfl
   ·have:=(hu.2 u vz).1; omega
   ·exact Int.le_refl _
  ·exact ⟨by omega,fun u vz=>by have:=(hu.2 u vz).1; omega⟩
theorem Cq {α β γ:Type} (f:β→Option γ) (g:α→β):∀ l:List α,(l.map g).filterMap f=l.filterMap fun x=>f (g x)
 | []=>rfl
 | x :: l=>by simp only [List.map_cons,List.filterMap_cons,Cq f g l]
theorem Qp {l:List ay} (h:nu l) {S:List aS} (hv:hY (l.map (ei S))) {rest:Int} (h1:1≤rest) (h2:rest≤1000):p6 (l.map (ei S)) (200+rest) rest 99=(bL l).map dV:=by
 unfold p6
 rw [if_neg (by rw [im.2 hv]; simp; omega),Cq]
 unfold bL
 rw [List.map_filterMap]
 refine tL fun r hr=>?_
 have hu:=wS h (S:=S) hr
 rw [D5 (hv.ok _ (List.mem_map.2 ⟨r,hr,rfl⟩)) (by omega) (fun u vz=>by have:=hu.2 u vz; omega),CT]
theorem K5 {l:List ay} (h:nu l) {S:List aS} (hv:hY (l.map (ei S))) {rest:Int} (h1:1≤rest) (h2:rest≤1000):p6 (l.map (ei S)) (199+rest) rest 99=((bL l).map dV).filter fun x=>!decide (x ∈ S):=by
 unfold p6
 rw [if_neg (by rw [im.2 hv]; simp; omega),Cq]
 have key : ∀ (q : List ay), (∀ r ∈ q, r ∈ l) → q.filterMap (fun r => GQ (199 + rest) rest 99 (ei S r)) = ((bL q).map dV).filter fun x => !decide (x ∈ S) := by
  intro q
  induction q with
  | nil=>intro _; rfl
  | cons r q ih =>
   intro hq
   have hr:=hq r (by simp)
   have ih:=ih fun y hy=>hq y (by simp [hy])
   have gP:=hv.ok _ (List.mem_map.2 ⟨r,hr,rfl⟩)
   have hu:=wS h (S:=S) hr
   unfold bL at ih ⊢
   simp only [List.filterMap_cons,ih]
   cases hi:iV r with
   | none =>
    have hm:ei S r=r:=by unfold ei; rw [hi]
    have:GQ (199+rest) rest 99 (ei S r)=.none:=by
     rw [hm] at gP ⊢
     have hu2:=h.us r hr
     rw [D5 gP (by omega) (fun u vz=>by have:=(hu2.2 u vz).1; omega),hi]; rfl
    rw [this]
   | some x =>
    by_cases hx:dV x ∈ S
    ·have hm:ei S r=qE r x.Version:=by unfold ei; rw [hi]; simp [hx]
     have:GQ (199+rest) rest 99 (ei S r)=.none:=by
      rw [hm]
      unfold GQ
      have e:(qE r x.Version).Uses.any (fun u=>decide (u.Time > 199+rest - rest))=true:=by
       rw [List.any_eq_true]
       exact ⟨⟨x.Version,900,200⟩,by simp [qE],decide_eq_true (show (200:Int) > 199+rest - rest by omega)⟩
      rw [e]; simp
     rw [this]
     simp [hx]
    ·have hm:ei S r=r:=by unfold ei; rw [hi]; simp [hx]
     have:GQ (199+rest) rest 99 (ei S r)=some (dV x):=by
      rw [hm] at gP ⊢
      have hu2:=h.us r hr
      rw [D5 gP (by omega) (fun u vz=>by have:=(hu2.2 u vz).1; omega),hi]; rfl
     rw [this]
     simp [hx]
 exact key l fun _ h=>h
end Go.Sh
namespace Go.Sh
open Go.L
abbrev xA:ab:=ab.mk 4 1 (ByteArray.mk #[113]) [(ag.mk 1 3 0 0 0 0)] []
theorem Fp:Bk 1000=some true:=by
 unfold Bk
 rw [HF (by omega) (fun e he=>by
  simp only [List.mem_cons,List.not_mem_nil,or_false] at he
  unfold Mt
  rcases he with rfl | rfl <;> simp) (by simp) (by simp)]
 have h1:jK [(ba.mk (bE.mk 0 0 0) 1 (ab.mk 4 1 (ByteArray.mk #[113]) [(ag.mk 1 3 0 0 0 0)] []) (aS.mk 0 0) 0),(ba.mk (bE.mk 1 0 1) 3 (ab.mk 0 0 (ByteArray.mk #[]) [] []) (aS.mk 4 1) 0)] 9=([ay.mk 4 [xA] [true] [] false],[],0):=by decide +kernel
 rw [h1]
 simp only [Option.bind_some]
 rw [pe (by omega)]
 have h2:p6 [ay.mk 4 [xA] [true] [] false] 9 0 9=[aS.mk 4 1]:=by decide +kernel
 rw [h2]
 have hv:hY [ay.mk 4 [xA] [true] [] false]:=im.1 (by decide +kernel)
 have h3:GP [ay.mk 4 [xA] [true] [] false] 4 1=(xA,true):=by decide +kernel
 have h4:EO 1000 [xA] [0] 2 1=some (nA.mk 2 1 [(ag.mk 1 3 0 0 0 0)],0):=by decide +kernel
 have h5:EL 1000 (nA.mk 2 1 [(ag.mk 1 3 0 0 0 0)])=some 3:=by decide +kernel
 have h6:idx [aS.mk 4 1] (0:Int)=some (aS.mk 4 1):=rfl
 simp only [Option.bind_some,h6,vq (hv.sh (show 400<1000 by omega)),h3,h4,h5]
 simp
theorem Sd {F:Nat} {l:List Int} {v:Int} (hb:l.length<1000000) (hF:l.length<F) (h:v ∉ l):lS F l v=some false:=by
 unfold lS
 obtain ⟨r,h1,rfl⟩:db (rX l v F 0) (fun r=>r=false):=by
  refine e9 (a:=l) (L:=fun n i (_:Unit)=>rX l v n i) (fun _ _=>True) (fun n i x s hx _=>.inr ?_) (fun n s _=>?_) hF (s0:=()) trivial
  ·have hi:i<l.length:=(List.getElem?_eq_some_iff.1 hx).1
   have eE:(x == v)=false:=by
    have:x ≠ v:=fun he=>h (he ▸ List.mem_of_getElem? hx)
    simpa using this
   simp only [rX,Bd,fA hx,if_true,ep hx,Option.bind_some,fm (show i<1000000 by omega),eE,Bool.false_eq_true,if_false]
   exact ⟨(),trivial,trivial⟩
  ·simp only [rX,Bd,fz,Bool.false_eq_true,if_false]
   exact ⟨_,rfl,rfl⟩
 exact h1
theorem D9 {l:List ab} {prev:List bG} {P:eX} (h:pb l prev P) (hP:yU P) (hk:∀ x ∈ l,ti x) {z:bk} (hg:z.Found=true→Good P z) (hb:∀ e,qG P.al.length 0 e→kL P e=true→z.Found=true∧z.iy≤fa P.al e) :
  (z.Found=true ↔ ∃ (i:Nat) (x:ab),l[i]?=some x∧∀ f ∈ prev,pn f x=0):=by
 constructor
 ·intro hf
  obtain ⟨h1,h2,_⟩:=hg hf
  rw [h.n] at h1
  cases hc:z.cN with
  | nil=>rw [hc,I6 h] at h2; cases h2
  | cons i c =>
   rw [hc] at h1 h2
   obtain ⟨j,rfl,_,hj,_⟩:=h1
   have hx:l[j]?=some l[j]:=by simp [hj]
   exact ⟨j,l[j],hx,fun f hf=>wT h h2 hf (by simp) hx⟩
 ·rintro ⟨i,x,hx,hv⟩
  have hi:i<l.length:=(List.getElem?_eq_some_iff.1 hx).1
  exact (hb [(i:Int)] ⟨i,rfl,by omega,by rw [h.n]; exact hi,trivial⟩ (I7 h hk hx hv)).1
theorem R4 {l:List ay} (h:nu l) {ka c:List Int} {ew:bk × Int} {r3:bx × List ab × Bool} {ct:bG × Int} (h3:r3.2.1=bL l) (hc:qG (bL l).length 0 c) (R7:ew.1.cN=c) (KK:ct.1=bG.mk 900 (c.map (gu (bL l)))) (hl:ka.length=(bL l).length) (hcs:∀ x ∈ ka,0≤x∧x≤10000) :
  db ((Dm 1000 (qR.mk 1 2 0 200 ([]:List cK) ([]:List cK) ([]:List Int) [ct.1] 0) r3.2.1 ka).bind fun ga=>(uI 1000 ga.1).bind fun nk=>Bs 1000 r3 ew ct ga nk 1000 0) (fun b=>b=true):=by
 rw [h3,KK]
 have hn:=mn h
 have hk:=wP h
 have hcl:=hc.len (by omega)
 have jH:=xW hc
 rw [List.drop_zero] at jH
 have Cv:=xJ jH (uP h)
 refine db.bind (xa (prev:=[bG.mk 900 (c.map (gu (bL l)))]) (by omega) hn (by simp) (fun f hf=>by simp at hf; subst hf; simp; omega) hk hl hcs) fun ga hP=>?_
 have Sb:=hP.2.ok hn (by simp) hk
 refine db.bind (EY Sb (by omega)) fun nk hz=>?_
 obtain ⟨vU,BX,VQ,X3⟩:=hz
 have hF:=D9 hP.2 Sb hk BX X3
 have hlen:nk.1.cN.length≤5:=by
  cases hf:nk.1.Found with
  | false=>rw [VQ hf]; simp
  | true=>have:=(BX hf).1.len (by omega); rw [hP.2.n] at this; omega
 refine e9 (a:=nk.1.cN) (L:=fun n i (_:Unit)=>Bs 1000 r3 ew ct ga nk n i) (fun _ _=>True) (fun n i x s hx _=>.inr ?_) (fun n s _=>?_) (by omega) (s0:=()) trivial
 ·have hi:i<nk.1.cN.length:=(List.getElem?_eq_some_iff.1 hx).1
  have Lw:x ∉ ew.1.cN:=by
   rw [R7]
   intro ZA
   have hf:nk.1.Found=true:=by
    cases hf:nk.1.Found with
    | true=>rfl
    | false=>rw [VQ hf] at hi; simp at hi
   obtain ⟨g1,g2,_⟩:=BX hf
   obtain ⟨j,rfl,_,hj⟩:=hc.mem x ZA
   have hy:(bL l)[j]?=some (bL l)[j]:=by simp [hj]
   have hv:=wT (f:=bG.mk 900 (c.map (gu (bL l)))) hP.2 g2 (by simp) (List.mem_of_getElem? hx) hy
   unfold pn at hv
   have:aS.mk (bL l)[j].ID (bL l)[j].Version ∈ c.map (gu (bL l)):=List.mem_map.2 ⟨_,ZA,by simp [gu,hj,dV]⟩
   rw [if_pos this] at hv
   cases hv
  have hh:=Sd (F:=1000) (by rw [R7]; omega) (by rw [R7]; omega) Lw
  simp only [Bs,AM,fA hx,if_true,ep hx,Option.bind_some,fm (show i<1000000 by omega),hh,Bool.false_eq_true,if_false]
  exact ⟨(),trivial,trivial⟩
 ·simp only [Bs,AM,fz,Bool.false_eq_true,if_false,hP.1,vU,Fp,Option.bind_some,beq_self_eq_true,if_true]
  have oS:(nk.1.Found == decide ((r3.2.1.length:Int) > (ct.1.Items.length:Int)))=true:=by
   rw [beq_iff_eq,Bool.eq_iff_iff,hF,h3,KK]
   simp only [List.length_map,decide_eq_true_eq,gt_iff_lt] at Cv ⊢
   constructor
   ·rintro ⟨i,x,hx,hv⟩
    have hi:dV x ∈ (bL l).map dV:=List.mem_map.2 ⟨x,List.mem_of_getElem? hx,rfl⟩
    have hv:=hv (bG.mk 900 (c.map (gu (bL l)))) (by simp)
    unfold pn at hv
    have sR:dV x ∉ c.map (gu (bL l)):=fun hin=>by
     rw [if_pos (show aS.mk x.ID x.Version ∈ (bG.mk 900 (c.map (gu (bL l)))).Items from hin)] at hv; cases hv
    have:0<(((bL l).map dV).filter fun y=>!decide (y ∈ c.map (gu (bL l)))).length:=List.length_pos_of_mem (List.mem_filter.2 ⟨hi,by simpa using sR⟩)
    omega
   ·intro hlt
    have:0<(((bL l).map dV).filter fun y=>!decide (y ∈ c.map (gu (bL l)))).length:=by omega
    obtain ⟨y,hy⟩:=List.exists_mem_of_length_pos this
    obtain ⟨rR,Tj⟩:=List.mem_filter.1 hy
    obtain ⟨x,hx,rfl⟩:=List.mem_map.1 rR
    obtain ⟨i,hi⟩:=List.mem_iff_getElem?.1 hx
    refine ⟨i,x,hi,fun f hf=>?_⟩
    simp only [List.mem_singleton] at hf
    subst hf
    unfold pn
    rw [if_neg]
    have h9:dV x ∉ c.map (gu (bL l)):=by simpa using Tj
    exact h9
  rw [oS]
  exact ⟨_,rfl,rfl⟩
end Go.Sh
namespace Go.Sh
open Go.L
theorem GO {l:List ay} (h:nu l) {ka c:List Int} {ew:bk × Int} {r3:bx × List ab × Bool} {ct:bG × Int} {er:Int} (hr:0≤er∧er<50) (Y5:r3.1.aa=l) (h3:r3.2.1=bL l) (hc:qG (bL l).length 0 c) (R7:ew.1.cN=c) (KK:ct.1=bG.mk 900 (c.map (gu (bL l)))) (hl:ka.length=(bL l).length) (hcs:∀ x ∈ ka,0≤x∧x≤10000) :
  db (Br 1000 r3 ka ew ct er 1000 0 r3.1.aa) (fun b=>b=true):=by
 have hn:=mn h
 have hcl:=hc.len (by omega)
 have jH:=xW hc
 rw [List.drop_zero] at jH
 have hnd:=uP h
 have Cv:=xJ jH hnd
 have Ot:(c.map (gu (bL l))).Nodup:=jH.nodup hnd
 have Lg:ct.1.Items=c.map (gu (bL l)):=by rw [KK]
 have WV:ct.1.Items.length=c.length:=by rw [Lg]; simp
 refine e9 (a:=ct.1.Items) (L:=Br 1000 r3 ka ew ct er) (fun i s=>s=l.map (ei (ct.1.Items.take i))∧hY s) (fun n i x s hx hI=>.inr ?_) (fun n s hI=>?_) (by omega) ⟨by rw [Y5]; exact (List.map_id l).symm.trans (List.map_congr_left fun r _=>(F8 r).symm),by rw [Y5]; exact h.val⟩
 ·obtain ⟨rfl,hv⟩:=hI
  have hi:i<ct.1.Items.length:=(List.getElem?_eq_some_iff.1 hx).1
  have fw:x ∈ (bL l).map dV:=jH.subset (by rw [← Lg]; exact List.mem_of_getElem? hx)
  obtain ⟨y,hy,rfl⟩:=List.mem_map.1 fw
  have Lw:dV y ∉ ct.1.Items.take i:=by
   intro hin
   obtain ⟨q,hq⟩:=List.mem_iff_getElem?.1 hin
   have O1:q<i:=by
    have:=(List.getElem?_eq_some_iff.1 hq).1
    simp only [List.length_take] at this; omega
   rw [List.getElem?_take,if_pos O1] at hq
   rw [← Lg] at Ot
   unfold List.Nodup at Ot
   have g1:=(List.getElem?_eq_some_iff.1 hq)
   have g2:=(List.getElem?_eq_some_iff.1 hx)
   exact List.pairwise_iff_getElem.1 Ot q i g1.1 hi O1 (g1.2.trans g2.2.symm)
  have Is:=wj h hy Lw hv
  have Lj:xx 1000 ⟨l.map (ei (ct.1.Items.take i))⟩ (pO (dV y))=some (⟨l.map (ei (ct.1.Items.take i++[dV y]))⟩,0):=by
   rw [K2 (by omega),tt hv,Is]; rfl
  unfold pO at Lj
  simp only [Br,AL,fA hx,if_true,ep hx,Option.bind_some,fm (show i<1000000 by omega),Lj,bne_self_eq_false,Bool.false_eq_true,if_false]
  refine ⟨_,rfl,?_,I5 h hy Lw hv⟩
  rw [List.take_add_one,hx]; rfl
 ·obtain ⟨rfl,hv⟩:=hI
  rw [List.take_length] at hv ⊢
  have e0:i64 (1+er)=1+er:=cL (by omega) (by omega)
  have e1:i64 (199+(1+er))=199+(1+er):=cL (by omega) (by omega)
  have e2:i64 (200+(1+er))=200+(1+er):=cL (by omega) (by omega)
  simp only [Br,AL,fz,Bool.false_eq_true,if_false,e0,e1,e2,pe (show 400<1000 by omega),Qp h hv (show 1≤1+er by omega) (show 1+er≤1000 by omega),K5 h hv (show 1≤1+er by omega) (show 1+er≤1000 by omega),Option.bind_some]
  have ec:((((bL l).map dV).length:Int) != (r3.2.1.length:Int) || (((((bL l).map dV).filter fun x=>!decide (x ∈ ct.1.Items)).length:Int) != i64 ((r3.2.1.length:Int) - (ct.1.Items.length:Int))))=false:=by
   rw [h3,cL (by omega) (by omega),Lg]
   simp only [List.length_map] at Cv
   simp only [List.length_map,Bool.or_eq_false_iff,bne_eq_false_iff_eq,true_and]
   omega
  rw [if_neg (by rw [ec]; simp)]
  exact R4 h h3 hc R7 KK hl hcs
theorem Bv {l:List ay} (h:nu l) {p1:Int} {t:aU} (ht:Tp t):db (Bq 1000 p1 (⟨l⟩,bL l,true) 1000 0 t.L t.At ([]:List Int)) (fun b=>b=true):=by
 have hn:=mn h
 have hk:=wP h
 refine e9 (a:=bL l) (L:=fun n i (s:List Int × Int × List Int)=>Bq 1000 p1 (⟨l⟩,bL l,true) n i s.1 s.2.1 s.2.2) (fun i s=>Tp (aU.mk s.1 s.2.1)∧s.2.2.length=i∧∀ x ∈ s.2.2,0≤x∧x≤10000) (fun n i x s hx hI=>.inr ?_) (fun n s hI=>?_) (by omega) (s0:=(t.L,t.At,[])) ⟨ht,rfl,by simp⟩
 ·obtain ⟨h1,h2,h3⟩:=hI
  have hi:i<(bL l).length:=(List.getElem?_eq_some_iff.1 hx).1
  obtain ⟨r,hr,g1,g2,g3,_⟩:=nY h1 5 (by omega)
  have g3:=g3 (by omega)
  simp only [Bq,AK,fA hx,if_true,hr,Option.bind_some,fm (show i<1000000 by omega)]
  rw [fh (by simp; omega)]
  refine ⟨(r.2.L,r.2.At,s.2.2++[r.1]),rfl,g1,by simp [h2],fun y hy=>?_⟩
  rcases List.mem_append.1 hy with hy | hy
  ·exact h3 y hy
  ·simp only [List.mem_singleton] at hy; subst hy; omega
 ·obtain ⟨h1,h2,h3⟩:=hI
  simp only [Bq,AK,fz,Bool.false_eq_true,if_false]
  refine db.bind (xa (prev:=[]) (by omega) hn (by simp) (by simp) hk h2 h3) fun fx hP=>?_
  have Sb:=hP.2.ok hn (by simp) hk
  refine db.bind (EY Sb (by omega)) fun ew hz=>?_
  obtain ⟨vU,BX,VQ,X3⟩:=hz
  have hF:=D9 hP.2 Sb hk BX X3
  have hc:qG (bL l).length 0 ew.1.cN:=by
   cases hf:ew.1.Found with
   | false=>rw [VQ hf]; trivial
   | true=>have:=(BX hf).1; rw [hP.2.n] at this; exact this
  rw [Om (by omega) (by omega) (fun x hx=>(hk x hx).1) hc]
  simp only [Option.bind_some]
  have Ee:(ew.1.Found == decide (((bL l).length:Int) > 0))=true:=by
   rw [beq_iff_eq,Bool.eq_iff_iff,hF]
   simp only [decide_eq_true_eq,gt_iff_lt]
   constructor
   ·rintro ⟨i,x,hx,_⟩; have:=(List.getElem?_eq_some_iff.1 hx).1; omega
   ·intro hlt
    have:0<(bL l).length:=by omega
    exact ⟨0,(bL l)[0],by simp [this],fun f hf=>by cases hf⟩
  rw [if_neg (by rw [hP.1,vU,Ee]; simp)]
  obtain ⟨er,g1,g2,g3,_⟩:=MA p1 50 (by omega)
  rw [g1]
  simp only [Option.bind_some]
  exact GO h (r3:=(⟨l⟩,bL l,true)) (ct:=(bG.mk 900 (ew.1.cN.map (gu (bL l))),0)) ⟨g2,g3 (by omega)⟩ rfl rfl hc rfl rfl h2 h3
end Go.Sh
namespace Go.Sh
open Go.L
theorem QR {t:aU} (h:Tp t):db (Fj t 0) fun r=>Tp r.2∧r.1.Max≤12:=by
 unfold Fj
 refine (ru h 1 12 (by omega) (by omega) (by omega)).bind fun r1 h1=>?_
 refine (nY h1.1 4 (by omega)).bind fun r2 h2=>?_
 refine (nY h2.1 3 (by omega)).bind fun r3 h3=>?_
 refine (nY h3.1 3 (by omega)).bind fun r4 h4=>?_
 have key:∀ (L:List Int) (A a b c d:Int),b≤12→Tp (aU.mk L A)→db (Fk 0 r2 r3 L A a b c d) fun r=>Tp r.2∧r.1.Max≤12:=fun L A a b c d hb hL=>by
  unfold Fk
  refine (Qs hL (by omega)).bind fun w hw=>?_
  refine db.ite (fun hm=>?_) fun _=>db.pure ⟨hw.1,hb⟩
  rw [hw.2 (by omega)] at hm; cases hm
 refine db.ite (fun _=>?_) fun _=>key _ _ _ _ _ _ (by omega) h4.1
 refine (ru h4.1 2 5 (by omega) (by omega) (by omega)).bind fun r5 h5=>?_
 refine (nY h5.1 r5.1 (by omega)).bind fun r6 h6=>?_
 exact (ru h6.1 1 3 (by omega) (by omega) (by omega)).bind fun r7 h7=>key _ _ _ _ _ _ (by omega) h7.1
theorem Qn {F:Nat} {t:aU} (h:Tp t) (id v:Int) (hF:50<F):db (Hb F t id v 0) fun r=>Tp r.2∧K1 r.1∧r.1.ID=id∧∀ p ∈ r.1.aK,p.Max≤12:=by
 unfold Hb
 refine (Vv h (by omega)).bind fun r1 h1=>?_
 refine db.yK (by show 1+_≤_; have:=h1.2; omega) ?_
 generalize (ByteArray.mk #[113])++r1.1=sb
 refine (ru h1.1 1 3 (by omega) (by omega) (by omega)).bind fun r3 h3=>?_
 have second:∀ (parts:List ag) (L:List Int) (A:Int),1≤parts.length→parts.length≤3→(∀ p ∈ parts,p.Max≤12)→Tp (aU.mk L A)→db (Fh id v 0 sb parts F 0 L A ([]:List Int)) fun r=>Tp r.2∧K1 r.1∧r.1.ID=id∧∀ p ∈ r.1.aK,p.Max≤12:=fun parts L A hp1 hp3 hpm hL=>by
  refine I2 (L:=Fh id v 0 sb parts) (B:=He id v 0 sb parts) (fun _=>rfl) (fun i l a e=>0≤i∧i≤6∧(e.length:Int)≤i∧Tp (aU.mk l a)) (fun i _ _ _=>(6 - i).toNat) (fun r=>Tp r.2∧K1 r.1∧r.1.ID=id∧∀ p ∈ r.1.aK,p.Max≤12) ?_ F 0 L A [] ⟨by omega,by omega,by simp,hL⟩ (by omega)
  intro rec i l a e hI ih
  obtain ⟨q1,q2,q3,q4⟩:=hI
  have hi:i64 (i+1)=i+1:=cL (by omega) (by omega)
  unfold He
  refine db.ite (fun hc=>?_) fun hc=>?_
  ·simp only [decide_eq_true_eq] at hc
   have may:db (if (i != id)=true then (qS (aU.mk l a) 8).bind fun er=>some (er.1,er.2.L,er.2.At) else some (false,l,a)) fun w=>Tp (aU.mk w.2.1 w.2.2) :=
    db.ite (fun _=>(QN q4 8 (by omega)).bind fun r hr=>db.pure hr) fun _=>db.pure q4
   refine may.bind fun w hw=>?_
   rw [hi]
   refine db.ite (fun _=>?_) fun _=>ih _ _ _ _ ⟨by omega,by omega,by omega,hw⟩ (by omega)
   exact db.app (by simp; omega) (ih _ _ _ _ ⟨by omega,by omega,by simp; omega,hw⟩ (by omega))
  ·have hb:K1 ⟨id,v,sb,parts,e⟩:=⟨by show parts.length≤20; omega,by show e.length≤20; omega⟩
   refine (Qs q4 (n:=0) (by omega)).bind fun w hw=>?_
   refine db.ite (fun hm=>?_) fun _=>db.pure ⟨hw.1,hb,rfl,hpm⟩
   rw [hw.2 (by omega)] at hm; cases hm
 refine I2 (L:=Hc F id v 0 sb) (B:=Hd F id v 0 sb) (fun _=>rfl) (fun k l a p=>0≤k∧(p.length:Int)+k≤3∧1≤(p.length:Int)+k∧Tp (aU.mk l a)∧∀ x ∈ p,x.Max≤12) (fun k _ _ _=>k.toNat) (fun r=>Tp r.2∧K1 r.1∧r.1.ID=id∧∀ p ∈ r.1.aK,p.Max≤12) ?_ F r3.1 r3.2.L r3.2.At [] ⟨by omega,by simp; omega,by simp; omega,h3.1,by simp⟩ (by omega)
 intro rec k l a p hI ih
 obtain ⟨q1,q2,q3,q4,q5⟩:=hI
 unfold Hd
 refine db.ite (fun hc=>?_) fun hc=>second p l a (by simp at hc; omega) (by omega) q5 q4
 simp only [decide_eq_true_eq] at hc
 refine (QR q4).bind fun r hr=>?_
 rw [cL (n:=k - 1) (by omega) (by omega)]
 exact db.app (by simp; omega) (ih _ _ _ _ ⟨by omega,by simp; omega,by simp; omega,hr.1,fun x hx=>(List.mem_append.1 hx).elim (q5 x) (fun hx=>by simp only [List.mem_singleton] at hx; subst hx; exact hr.2)⟩ (by omega))
def RN (e:ba):Prop:=K1 e.Item∧(0≤e.Item.ID∧e.Item.ID<5)∧(∀ p ∈ e.Item.aK,p.Max≤12)∧e.ak.Time≤100∧0≤e.Form∧e.Form<4
def qQ (l:List ba):Prop:=∀ e ∈ l,RN e
theorem qQ.short {F:Nat} {l:List ba} (h:qQ l) (hF:50<F):ze F l:=fun e he=>(h e he).1.sh hF
section
variable {aH:Int→List Int→Int→List Int→List ba→Option (List ba × aU)} {n3:Int} {l7:List ba} {l0:List ba × aU→Prop}
def Hk (aH:Int→List Int→Int→List Int→List ba→Option (List ba × aU)) (n3:Int) (l7:List ba) (l0:List ba × aU→Prop):Prop :=
 ∀ (t:aU) (vs:List Int) (l:List ba),Tp t→vs.length=5→l.length≤l7.length+2→qQ l→db (aH (i64 (n3 - 1)) t.L t.At vs l) l0
theorem R5 (hl:l7.length≤1000) (hc:qQ l7) (h:Hk aH n3 l7 l0) {n18 n25 n27 n28 n29 n30 n31 n32 n33 A:Int} {sb:ByteArray} {ps:List ag} {es vs L:List Int} (hv:vs.length=5) (zI:ps.length≤20) (MG:es.length≤20) (cj:0≤n18∧n18<5) (W4:∀ p ∈ ps,p.Max≤12) (Rt:0≤n25∧n25<4) (Zy:n27≤100) (ht:Tp (aU.mk L A)) :
  db (vE aH n3 l7 n18 sb ps es n25 vs n27 n28 n29 n30 n31 n32 n33 L A) l0:=by
 unfold vE
 refine db.app (by simp; omega) ?_
 have yV:qQ (l7++[ba.mk (bE.mk n27 n28 n29) n30 (ab.mk n18 n31 sb ps es) (aS.mk n32 n33) n25]):=fun x hx=>by
  rcases List.mem_append.1 hx with hx | hx
  ·exact hc x hx
  ·simp only [List.mem_singleton] at hx; subst hx; exact ⟨⟨zI,MG⟩,cj,W4,Zy,Rt.1,Rt.2⟩
 have oz:(l7++[ba.mk (bE.mk n27 n28 n29) n30 (ab.mk n18 n31 sb ps es) (aS.mk n32 n33) n25]).length=l7.length+1:=by simp
 generalize l7++[ba.mk (bE.mk n27 n28 n29) n30 (ab.mk n18 n31 sb ps es) (aS.mk n32 n33) n25]=v at yV oz
 refine (QN ht 8 (by omega)).bind fun r hr=>?_
 refine db.ite (fun _=>?_) fun _=>h _ _ _ hr hv (by omega) yV
 refine (nY hr (v.length:Int) (by omega)).bind fun r2 h2=>?_
 refine db.idx h2.2.1 (h2.2.2.1 (by omega)) fun x hx _=>?_
 refine db.app (by simp; omega) (h _ _ _ h2.1 hv (by simp; omega) fun y hy=>?_)
 rcases List.mem_append.1 hy with hy | hy
 ·exact yV y hy
 ·simp only [List.mem_singleton] at hy; subst hy; exact yV _ hx
theorem MB (hl:l7.length≤1000) (hc:qQ l7) (h:Hk aH n3 l7 l0) {ea da:Int × aU} {n16 n17 n18 n19 n23 n24 n25:Int} {sb:ByteArray} {ps:List ag} {es vs L:List Int} (hv:vs.length=5) (zI:ps.length≤20) (MG:es.length≤20) (cj:0≤n18∧n18<5) (W4:∀ p ∈ ps,p.Max≤12) (Rt:0≤n25∧n25<4) (Zy:ea.1≤1∧0≤ea.1∧l7.length≤40) (ht:Tp (aU.mk L n16)) :
  db (Ff aH 0 n3 l7 ea da L n16 n17 n18 n19 sb ps es n23 n24 n25 vs) l0:=by
 unfold Ff
 refine (Qs ht (n:=0) (by omega)).bind fun w hw=>?_
 refine db.ite (fun hm=>?_) fun _=>R5 hl hc h hv zI MG cj W4 Rt (by first | (rw [cL (by omega) (by omega)]; omega) | omega) hw.1
 rw [hw.2 (by omega)] at hm; cases hm
end
theorem zg {F:Nat} {t:aU} (h:Tp t) (ic:Nat) (hm:ic≤18) (hF:400<F):∃ l t',N8 F t ic 0=some (l,t')∧Tp t'∧l.length≤2 * ic∧qQ l:=by
 have key:db (N8 F t ic 0) fun r=>Tp r.2∧r.1.length≤2 * ic∧qQ r.1:=by
  unfold N8
  rw [show (5:Int)=((5:Nat):Int) from rfl,k8 (by omega),Option.bind_some]
  refine (ru h 0 ic (by omega) (by omega) (by omega)).bind fun r2 h2=>?_
  refine TK (L:=G9 F 0) (B:=Ha F 0) (fun _=>rfl) (fun k l a vs Rp=>0≤k∧(Rp.length:Int)+2 * k≤2 * ic∧vs.length=5∧qQ Rp∧Tp (aU.mk l a)) (fun k _ _ _ _=>k.toNat) (fun r=>Tp r.2∧r.1.length≤2 * ic∧qQ r.1) ?_ F r2.1 r2.2.L r2.2.At (List.replicate 5 0) [] ⟨by omega,by simp; omega,by simp,fun e he=>by simp at he,h2.1⟩ (by omega)
  intro rec k l a vs Rp hI ih
  obtain ⟨q1,q2,q3,q4,q5⟩:=hI
  unfold Ha
  refine db.ite (fun hc=>?_) fun hc=>db.pure ⟨q5,by show Rp.length≤_; omega,q4⟩
  simp only [decide_eq_true_eq] at hc
  have zG:Hk rec k Rp fun r=>Tp r.2∧r.1.length≤2 * ic∧qQ r.1:=fun t' fR l' a1 a2 a3 a4=>by
   rw [cL (n:=k - 1) (by omega) (by omega)]
   exact ih _ _ _ _ _ ⟨by omega,by omega,a2,a4,a1⟩ (by omega)
  refine (nY q5 5 (by omega)).bind fun r9 h9=>?_
  have b9:=h9.2.2.1 (by omega)
  refine (nY h9.1 2 (by omega)).bind fun ea Lc=>?_
  refine (nY Lc.1 2 (by omega)).bind fun da h11=>?_
  refine (TY h11.1 [3,4,4,2,5,6] (by simp) (by simp)).bind fun fx h12=>?_
  refine db.idx h9.2.1 (by omega) fun gF _ _=>?_
  refine (nY h12.1 4 (by omega)).bind fun ct KK=>?_
  have hw:db ((idx vs r9.1).bind fun Vw=>if (Vw == 0)=true then some true else some (fx.1 == 2)) fun _=>True :=
   db.idx h9.2.1 (by omega) fun x _ _=>db.ite (fun _=>db.pure trivial) fun _=>db.pure trivial
  have j4:∀ k4:Int,db (Fg rec F 0 k vs Rp r9 ea da ct k4) fun r=>Tp r.2∧r.1.length≤2 * ic∧qQ r.1:=fun k4=>by
   unfold Fg
   refine db.idx h9.2.1 (by omega) fun KY _ _=>?_
   refine db.idx h9.2.1 (by omega) fun ZY _ _=>?_
   refine db.idx h9.2.1 (by simp; omega) fun Vx _ _=>?_
   refine (Qn KK.1 r9.1 Vx (by omega)).bind fun sC R9=>?_
   exact MB (by omega) q4 zG (by simp [q3]) R9.2.1.1 R9.2.1.2 (by rw [R9.2.2.1]; omega) R9.2.2.2 (by omega) ⟨by have:=Lc.2.2.1 (by omega); omega,Lc.2.1,by omega⟩ R9.1
  refine hw.bind fun w _=>db.ite (fun _=>?_) fun _=>?_
  ·refine db.idx h9.2.1 (by omega) fun V2 _ _=>?_
   exact db.ite (fun _=>j4 _) fun _=>j4 _
  ·exact MB (by omega) q4 zG q3 (by simp) (by simp) (by omega) (by simp) ⟨KK.2.1,KK.2.2.1 (by omega)⟩ ⟨by have:=Lc.2.2.1 (by omega); omega,Lc.2.1,by omega⟩ KK.1
 obtain ⟨⟨l,t'⟩,h1,h2⟩:=key
 exact ⟨l,t',h1,h2⟩
end Go.Sh
namespace Go.Sh
open Go.L
structure Oa (r:ay):Prop where
 Pv:0≤r.ID∧r.ID<5
 it:∀ x ∈ r.ah,ti x
 nd:(r.Uses.map (·.Form)).Nodup
 us:∀ u ∈ r.Uses,u.Time≤100∧0≤u.Form∧u.Form<4
def N4 (l:List ay):Prop:=∀ r ∈ l,Oa r
theorem wW:∀ (n:Nat) (l:List Int),l.Nodup→(∀ x ∈ l,0≤x∧x<(n:Int))→l.length≤n
 | 0,l,_,h=>by
  cases l with
  | nil=>simp
  | cons x l=>have:=h x (by simp); omega
 | n+1,l,hd,h=>by
  have h1:=wW n (l.erase (n:Int)) (hd.erase _) fun x hx=>by
   have h2:=h x (List.mem_of_mem_erase hx)
   have h3:x ≠ (n:Int):=fun he=>by subst he; exact (hd.not_mem_erase) hx
   omega
  have h4:=List.length_erase_le (a:=(n:Int)) (l:=l)
  by_cases hm:(n:Int) ∈ l
  ·rw [List.length_erase_of_mem hm] at h1; omega
  ·rw [List.erase_of_not_mem hm] at h1; omega
theorem Ek {x:ab} (h:iD x=0) (hm:∀ p ∈ x.aK,p.Max≤12):ti x:=by
 obtain ⟨h1,h2⟩:=wu h
 have key:∀ l:List ag,(∀ p ∈ l,1≤p.Max∧p.Max≤12)→0≤(l.map (·.Max)).sum∧(l.map (·.Max)).sum≤12 * (l.length:Int):=by
  intro l
  induction l with
  | nil=>intro _; simp
  | cons p l ih =>
   intro hl
   have a:=hl p (by simp)
   have b:=ih fun q hq=>hl q (by simp [hq])
   simp only [List.map_cons,List.sum_cons,List.length_cons]; omega
 have:=key x.aK fun p hp=>⟨(h2 p hp).1,hm p hp⟩
 exact ⟨h,this.1,by unfold total; omega⟩
theorem K6 {r:ay} {e:ba} (h:Oa r) (he:RN e) (hc:e.Kind=2→iD e.Item=0):Oa (kb r e).2:=by
 obtain ⟨_,_,e3,e4,e5,e6⟩:=he
 unfold kb
 split
 ·rename_i hk
  split
  ·exact h
  ·refine ⟨h.Pv,fun x hx=>?_,h.nd,h.us⟩
   rcases List.mem_append.1 hx with hx | hx
   ·exact h.it x hx
   ·simp only [List.mem_singleton] at hx; subst hx; exact Ek (hc hk) e3
 ·split
  ·split
   ·exact h
   ·split
    ·exact h
    ·split
     ·exact h
     ·exact ⟨h.Pv,h.it,h.nd,h.us⟩
  ·split
   ·split
    ·exact h
    ·split
     ·exact h
     ·split
      ·exact h
      ·rename_i Ww
       split
       ·exact h
       ·refine ⟨h.Pv,h.it,?_,fun u hu=>?_⟩
        ·simp only [List.map_append,List.map_cons,List.map_nil]
         rw [List.nodup_append]
         refine ⟨h.nd,by simp,fun a ha b hb nf=>?_⟩
         simp only [List.mem_singleton] at hb
         subst hb; subst nf
         obtain ⟨u,hu,hf⟩:=List.mem_map.1 ha
         exact Ww (List.any_eq_true.2 ⟨u,hu,by simpa using hf⟩)
        ·rcases List.mem_append.1 hu with hu | hu
         ·exact h.us u hu
         ·simp only [List.mem_singleton] at hu; subst hu; exact ⟨e4,e5,e6⟩
   ·split
    ·exact h
    ·exact ⟨h.Pv,h.it,h.nd,h.us⟩
theorem D4 {l:List ay} {e:ba} (h:N4 l) (he:RN e) (hc:e.Kind=2→iD e.Item=0):N4 (nJ l e).2:=by
 unfold nJ
 split
 ·exact h
 ·split
  ·exact h
  ·rename_i r hr
   split
   ·intro q hq
    rcases List.mem_or_eq_of_mem_set hq with hq | hq
    ·exact h q hq
    ·rw [hq]; exact K6 (h r (List.mem_of_getElem? hr)) he hc
   ·exact h
theorem Ma {l:List ay} {e:ba} (h:N4 l) (he:RN e):N4 (dO l e).2:=by
 unfold dO
 split
 ·unfold nI
  split
  ·exact h
  ·rename_i OI
   split
   ·exact h
   ·split
    ·exact h
    ·split
     ·exact h
     ·intro q hq
      simp only [Px,List.mem_append,List.mem_singleton] at hq
      rcases hq with (hq | hq) | hq
      ·exact h q (List.mem_of_mem_take hq)
      ·subst hq
       exact ⟨he.2.1,fun x hx=>by simp only [List.mem_singleton] at hx; subst hx; exact Ek (by simpa using OI) he.2.2.1,by simp,by simp⟩
      ·exact h q (List.mem_of_mem_drop hq)
 ·split
  ·split
   ·exact h
   ·rename_i OI
    exact D4 h he fun _=>by simpa using OI
  ·rename_i h2
   split
   ·exact D4 h he fun hk=>absurd hk h2
   ·exact h
theorem D8:∀ {s:List ba} {l:List ay} {r:List fc},N4 l→(∀ e ∈ s,RN e)→N4 (jL s l r).1
 | [],l,r,h,_=>h
 | e :: s,l,r,h,hs=>by
  unfold jL
  exact D8 (Ma h (hs e (by simp))) fun x hx=>hs x (by simp [hx])
theorem HE {ev:List ba} {u:Int} (h:qQ ev):nu (jK ev u).1:=by
 have hF:N4 (jK ev u).1:=by
  unfold jK
  simp only
  split
  ·intro r hr; cases hr
  ·refine D8 (fun r hr=>by cases hr) fun e he=>?_
   unfold pN at he
   exact h e (zh (List.takeWhile_subset _ he))
 refine ⟨FE,fun r hr=>(hF r hr).Pv,fun r hr=>(hF r hr).it,fun r hr=>?_⟩
 have kJ:=hF r hr
 have:=wW 4 _ kJ.nd fun x hx=>by
  obtain ⟨u,hu,rfl⟩:=List.mem_map.1 hx
  have:=kJ.us u hu; omega
 rw [List.length_map] at this
 exact ⟨by omega,fun u hu=>by have:=kJ.us u hu; omega⟩
theorem KS (t:List Int) (rest:Int):∃ F,EP F t rest=some true:=by
 refine ⟨1000,?_⟩
 unfold EP
 obtain ⟨t1,a1,a2⟩:=TR t
 obtain ⟨ev,t2,b1,b2,b3,b4⟩:=zg (F:=1000) a2 18 (by omega) (by omega)
 have Z3:N8 1000 t1 18 0=some (ev,t2):=b1
 have Zb:=HE (u:=1000000) b4
 have wB:iq 1000 ev 1000000=some (⟨(jK ev 1000000).1⟩,(jK ev 1000000).2.1,(jK ev 1000000).2.2):=HF (by omega) (b4.short (by omega)) (by omega) (by omega)
 have Sn:(jK ev 1000000).2.2=0:=by rw [zo (by omega)]
 rw [Sn] at wB
 rw [a1]
 simp only [Option.bind_some,Z3,Hq (show 500<1000 by omega) wB Zb]
 obtain ⟨b,h1,rfl⟩:=Bv Zb (p1:=rest) b2
 exact h1
end Go.Sh
