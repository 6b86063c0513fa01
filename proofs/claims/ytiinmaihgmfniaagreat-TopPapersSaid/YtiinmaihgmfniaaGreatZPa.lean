import Derived.Test.YtiinmaihgmfniaaGreatZSh
set_option linter.unusedVariables false
set_option linter.unusedSimpArgs false
namespace Go.Sh
open Go.L
theorem bR {n:Int} (h1:-9223372036854775808≤n) (h2:n≤9223372036854775807):i64 n=n:=by
 show IntKind.i64.wrap n=n
 rw [IntKind.wrap_i64]; omega
theorem pS {α:Type} (l:List α) (i:Nat):idx l (i:Int)=l[i]?:=by
 unfold idx; simp
theorem k6 {α:Type} {l:List α} {i:Int} {x:α}:idx l i=some x ↔ 0≤i∧l[i.toNat]?=some x:=by
 unfold idx; split
 ·simp_all
 ·constructor
  ·intro h; cases h
  ·intro h; omega
theorem k5 {α:Type} {l:List α} {i:Nat} (h:i<l.length):idx l (i:Int)=some l[i]:=by
 rw [pS]; simp [h]
theorem pj {α:Type} (p:List α) (x:α) (s:List α):idx (p++x :: s) (p.length:Int)=some x:=by
 rw [pS]; simp
theorem dp {α:Type} {xs ys:List α} (h:xs.length+ys.length≤549755813888):app xs ys=some (xs++ys):=by unfold app; rw [if_pos h]
theorem Ez {α:Type} {xs:List α} {n:Nat} (h:n≤xs.length):UG xs 0 n=some (xs.take n):=by
 unfold UG; rw [if_pos ⟨by omega,by omega,by omega⟩]; simp
theorem k7 {α:Type} {z:α} {n:Nat} (h:n≤1000000):yo z (n:Int)=some (List.replicate n z):=by
 unfold yo; rw [if_pos ⟨by omega,by omega⟩]; simp
theorem U3 {α:Type} (p:List α) (x:α) (s:List α):decide ((p.length:Int)<((p++x :: s).length:Int))=true:=by simp; omega
theorem dge {α:Type} (p:List α):decide ((p.length:Int)<((p++[]).length:Int))=false:=by simp
theorem nxt {α:Type} (p:List α) (x:α) (h:p.length<1000000000):i64 ((p.length:Int)+1)=((p++[x]).length:Int):=by
 rw [bR (by omega) (by omega)]; simp
theorem snoc {α:Type} (p:List α) (x:α) (s:List α):p++x :: s=(p++[x])++s:=by simp
theorem MC {α β R:Type} {L:Nat→α→β→Option R} {B:(α→β→Option R)→α→β→Option R} (hL:∀ n,L (n+1)=B (L n)) (I:α→β→Prop) (μ:α→β→Nat) (nE:R→Prop)
  (step:∀ rec a b,I a b→(∀ a' b',I a' b'→μ a' b'<μ a b→∃ r,rec a' b'=some r∧nE r)→∃ r,B rec a b=some r∧nE r):∀ n a b,I a b→μ a b<n→∃ r,L n a b=some r∧nE r:=by
 intro n
 induction n with
 | zero=>intro a b _ h; omega
 | succ n ih=>intro a b hI h; rw [hL]; exact step _ a b hI fun a' b' h1 h2=>ih a' b' h1 (by omega)
theorem MD {α β γ δ R:Type} {L:Nat→α→β→γ→δ→Option R} {B:(α→β→γ→δ→Option R)→α→β→γ→δ→Option R} (hL:∀ n,L (n+1)=B (L n)) (I:α→β→γ→δ→Prop) (μ:α→β→γ→δ→Nat) (nE:R→Prop)
  (step:∀ rec a b c d,I a b c d→(∀ a' b' c' d',I a' b' c' d'→μ a' b' c' d'<μ a b c d→∃ r,rec a' b' c' d'=some r∧nE r)→∃ r,B rec a b c d=some r∧nE r):∀ n a b c d,I a b c d→μ a b c d<n→∃ r,L n a b c d=some r∧nE r:=by
 intro n
 induction n with
 | zero=>intro a b c d _ h; omega
 | succ n ih=>intro a b c d hI h; rw [hL]; exact step _ a b c d hI fun a' b' c' d' h1 h2=>ih a' b' c' d' h1 (by omega)
theorem XP {α β γ δ ε R:Type} {L:Nat→α→β→γ→δ→ε→Option R} {B:(α→β→γ→δ→ε→Option R)→α→β→γ→δ→ε→Option R} (hL:∀ n,L (n+1)=B (L n)) (I:α→β→γ→δ→ε→Prop) (μ:α→β→γ→δ→ε→Nat) (nE:R→Prop)
  (step:∀ rec a b c d e,I a b c d e→(∀ a' b' c' d' e',I a' b' c' d' e'→μ a' b' c' d' e'<μ a b c d e→∃ r,rec a' b' c' d' e'=some r∧nE r)→∃ r,B rec a b c d e=some r∧nE r):∀ n a b c d e,I a b c d e→μ a b c d e<n→∃ r,L n a b c d e=some r∧nE r:=by
 intro n
 induction n with
 | zero=>intro a b c d e _ h; omega
 | succ n ih=>intro a b c d e hI h; rw [hL]; exact step _ a b c d e hI fun a' b' c' d' e' h1 h2=>ih a' b' c' d' e' h1 (by omega)
def oz (a b:Int):Int:=if a<b then -1 else if b<a then 1 else 0
theorem pK (a b:Int):db a b=some (oz a b):=by
 simp only [db,cmp_isNaN_int,oz,Option.bind_some,bne_self_eq_false,Bool.false_eq_true,if_false,decide_eq_true_eq,gt_iff_lt]
 repeat' split
 all_goals first | rfl | omega
def QY:List Int→Int
 | []=>0
 | x :: r=>if x=0 then QY r else x
theorem Px (s:List Int):∀ (p:List Int) (n:Nat),(p++s).length<1000000→s.length<n→fl (p++s) n (p.length:Int)=some (QY s):=by
 induction s with
 | nil=>intro p n hb hn; cases n with
  | zero=>omega
  | succ n=>simp only [fl,fU,dge,Bool.false_eq_true,if_false,QY]
 | cons x s ih=>intro p n hb hn; cases n with
  | zero=>omega
  | succ n =>
   simp only [fl,fU,U3,pj,if_true,Option.bind_some,QY,bne_iff_ne,ne_eq]
   by_cases h:x=0
   ·simp only [h,not_true_eq_false,if_false,if_true]
    have hl:p.length<1000000000:=by simp at hb; omega
    rw [nxt p 0 hl,snoc]
    exact ih (p++[0]) n (by simpa using hb) (by simpa using hn)
   ·simp [h]
theorem Uq {F:Nat} {xs:List Int} (hb:xs.length<1000000) (hF:xs.length<F):iC F xs=some (QY xs):=by
 have:=Px xs [] F (by simpa using hb) hF
 simpa [iC] using this
def eG (x y:bJ):Int:=if oz x.Source y.Source ≠ 0 then oz x.Source y.Source else oz x.Seq y.Seq
def jL (x y:bJ):Int:=if oz x.Time y.Time ≠ 0 then oz x.Time y.Time else eG x y
theorem tC {F:Nat} (hF:10≤F) (x y:bJ):JE F x y=some (eG x y):=by
 simp only [JE,pK,Option.bind_some]
 rw [Uq (by simp) (by simp; omega)]
 simp only [Option.bind_some,QY,eG]
 repeat' split
 all_goals simp_all
theorem xq {F:Nat} (hF:10≤F) (x y:bJ):Eb F x y=some (jL x y):=by
 simp only [Eb,pK,Option.bind_some]
 rw [Uq (by simp) (by simp; omega)]
 simp only [Option.bind_some,QY,jL,eG]
 repeat' split
 all_goals simp_all
def bJ.nG (x:bJ):Bool:=(decide (x.Time ≥ 0)) && ((decide (x.Time≤1000000)) && ((decide (x.Source ≥ 0)) && ((decide (x.Source≤99)) && ((decide (x.Seq ≥ 0)) && (decide (x.Seq≤9999))))))
theorem P8 (x:bJ):Ig x=some x.nG:=rfl
theorem rr {a b : Int} : oz a b < 0 ↔ a < b := by unfold oz; repeat' split
                                                  all_goals omega
theorem kO {a b : Int} : oz a b = 0 ↔ a = b := by unfold oz; repeat' split
                                                  all_goals omega
theorem fT {x y:bJ}:eG x y<0 ↔ x.Source<y.Source ∨ x.Source=y.Source∧x.Seq<y.Seq:=by
 unfold eG; have:=@kO x.Source y.Source; split
 ·rw [rr]; simp_all
 ·rw [rr]; simp_all
theorem eH {x y:bJ}:eG x y=0 ↔ x.Source=y.Source∧x.Seq=y.Seq:=by
 unfold eG; have:=@kO x.Source y.Source; have:=@kO x.Seq y.Seq; split <;> simp_all
theorem jM {x y:bJ}:jL x y<0 ↔ x.Time<y.Time ∨ x.Time=y.Time∧(x.Source<y.Source ∨ x.Source=y.Source∧x.Seq<y.Seq):=by
 unfold jL; have:=@kO x.Time y.Time; split
 ·rw [rr]; simp_all
 ·rw [fT]; simp_all
theorem Fq {x y:bJ}:jL x y=0 ↔ x=y:=by
 have h1:=@kO x.Time y.Time
 have h2:=@eH x y
 have h3:x=y ↔ x.Time=y.Time∧x.Source=y.Source∧x.Seq=y.Seq:=by cases x; cases y; simp
 unfold jL; split <;> simp_all
theorem KU {x y:bJ}:jL x y > 0 ↔ jL y x<0:=by
 rw [jM]
 unfold jL eG oz
 repeat' split
 all_goals omega
end Go.Sh
namespace Go.Sh
open Go.L
theorem qW {α:Type} {R:α→α→Prop} (hi:∀ a,¬ R a a) (ht:∀ a b c,R a b→R b c→R a c):∀ {xs ys:List α},xs.Pairwise R→ys.Pairwise R→(∀ a,a ∈ xs ↔ a ∈ ys)→xs=ys
 | [],[],_,_,_=>rfl
 | [],y :: ys,_,_,h=>by have:=(h y).2 (by simp); simp at this
 | x :: xs,[],_,_,h=>by have:=(h x).1 (by simp); simp at this
 | x :: xs,y :: ys,hx,hy,h=>by
  rw [List.pairwise_cons] at hx hy
  have yQ:x=y:=by
   rcases List.mem_cons.1 ((h x).1 (by simp)) with h1 | h1
   ·exact h1
   ·rcases List.mem_cons.1 ((h y).2 (by simp)) with h2 | h2
    ·exact h2.symm
    ·exact absurd (ht _ _ _ (hx.1 y h2) (hy.1 x h1)) (hi x)
  subst yQ
  congr 1
  refine qW hi ht hx.2 hy.2 fun a=>?_
  have:=h a
  simp only [List.mem_cons] at this
  constructor
  ·intro ha
   rcases this.1 (.inr ha) with h1 | h1
   ·subst h1; exact absurd (hx.1 a ha) (hi a)
   ·exact h1
  ·intro ha
   rcases this.2 (.inr ha) with h1 | h1
   ·subst h1; exact absurd (hy.1 a ha) (hi a)
   ·exact h1
def yi {α:Type} (lt:α→α→Bool) (x:α):List α→List α
 | []=>[x]
 | y :: r=>if lt x y then x :: y :: r else y :: yi lt x r
theorem Cr {α:Type} {lt:α→α→Bool} {x a:α}:∀ {l:List α},a ∈ yi lt x l ↔ a=x ∨ a ∈ l
 | []=>by simp [yi]
 | y :: r=>by
  simp only [yi]
  split
  ·simp
  ·simp only [List.mem_cons,Cr (l:=r)]
   constructor
   ·rintro (h | h | h) <;> simp [h]
   ·rintro (h | h | h) <;> simp [h]
theorem y6 {α:Type} {lt:α→α→Bool} {x:α}:∀ {l:List α},(yi lt x l).Perm (x :: l)
 | []=>.refl _
 | y :: r=>by
  simp only [yi]
  split
  ·exact .refl _
  ·exact (y6.cons y).trans (List.Perm.swap x y r)
theorem tW {α:Type} {lt:α→α→Bool} {x:α}:∀ {l:List α},(∀ a ∈ x :: l,∀ b ∈ x :: l,∀ c ∈ x :: l,lt a b=true→lt b c=true→lt a c=true)→(∀ y ∈ l,lt x y=true ∨ lt y x=true)→l.Pairwise (fun a b=>lt a b=true)→(yi lt x l).Pairwise fun a b=>lt a b=true
 | [],_,_,_=>by simp [yi]
 | y :: r,ht,WQ,hp=>by
  rw [List.pairwise_cons] at hp
  simp only [yi]
  split
  ·rename_i yQ
   rw [List.pairwise_cons]
   refine ⟨fun a ha=>?_,List.pairwise_cons.2 hp⟩
   rcases List.mem_cons.1 ha with rfl | ZW
   ·exact yQ
   ·exact ht x (by simp) y (by simp) a (by simp [ZW]) yQ (hp.1 a ZW)
  ·rename_i yQ
   have Of:lt y x=true:=(WQ y (by simp)).resolve_left yQ
   rw [List.pairwise_cons]
   have mE:∀ a,a ∈ x :: r→a ∈ x :: y :: r:=fun a ha=>by rcases List.mem_cons.1 ha with h | h <;> simp [h]
   refine ⟨fun a ha=>?_,tW (fun a ha b hb c hc=>ht a (mE a ha) b (mE b hb) c (mE c hc)) (fun z hz=>WQ z (by simp [hz])) hp.2⟩
   rcases Cr.1 ha with rfl | ha
   ·exact Of
   ·exact hp.1 a ha
def rQ {α:Type} (lt:α→α→Bool):List α→List α
 | []=>[]
 | x :: r=>yi lt x (rQ lt r)
theorem iG {α:Type} {lt:α→α→Bool}:∀ {l:List α},(rQ lt l).Perm l
 | []=>.refl _
 | x :: r=>y6.trans (iG.cons x)
theorem nR {α:Type} {lt:α→α→Bool}:∀ {l:List α},(∀ a ∈ l,∀ b ∈ l,∀ c ∈ l,lt a b=true→lt b c=true→lt a c=true)→l.Pairwise (fun a b=>lt a b=true ∨ lt b a=true)→(rQ lt l).Pairwise fun a b=>lt a b=true
 | [],_,_=>by simp [rQ]
 | x :: r,ht,hp=>by
  rw [List.pairwise_cons] at hp
  simp only [rQ]
  have hm:∀ a,a ∈ x :: rQ lt r→a ∈ x :: r:=fun a ha=>by
   rcases List.mem_cons.1 ha with h | h
   ·simp [h]
   ·simp [iG.mem_iff.1 h]
  exact tW (fun a ha b hb c hc=>ht a (hm a ha) b (hm b hb) c (hm c hc)) (fun y hy=>hp.1 y (iG.mem_iff.1 hy)) (nR (fun a ha b hb c hc=>ht a (by simp [ha]) b (by simp [hb]) c (by simp [hc])) hp.2)
theorem EA {α:Type} {c:α→α→Option Int} {xs:List α} (cf:α→α→Int) (hlen:xs.length<1000000) (hc:∀ x ∈ xs,∀ y ∈ xs,c x y=some (cf x y)) (hi:∀ x ∈ xs,¬ cf x x<0) (ht:∀ x ∈ xs,∀ y ∈ xs,∀ z ∈ xs,cf x y<0→cf y z<0→cf x z<0)
  (hn:∀ x ∈ xs,∀ y ∈ xs,∀ z ∈ xs,¬ cf x y<0→¬ cf y z<0→¬ cf x z<0) (hd:xs.Pairwise fun a b=>cf a b<0 ∨ cf b a<0):∃ ys,sf c xs=some ys∧ys.Perm xs∧ys.Pairwise fun a b=>cf a b<0:=by
 have hs:=nR (lt:=fun a b=>decide (cf a b<0)) (l:=xs) (fun a ha b hb c hc=>by simpa using ht a ha b hb c hc) (by simpa using hd)
 have FT:(rQ (fun a b=>decide (cf a b<0)) xs).Pairwise fun a b=>cf a b<0:=by simpa using hs
 exact ⟨_,NG ⟨iG,hlen,cf,hc,hi,ht,hn,FT⟩,iG,FT⟩
def UF (x y:bJ):Prop:=x.Source=y.Source∧x.Seq=y.Seq
instance (x y:bJ):Decidable (UF x y):=by unfold UF; infer_instance
def Cu (l:List bJ) (i:Nat):Prop:=∃ x,l[i]?=some x∧x.nG=true
def KX (l:List bJ) (cl:List Int) (i k:Nat):Prop:=∃ x y c d,l[i]?=some x∧l[k]?=some y∧cl[i]?=some c∧cl[k]?=some d∧UF x y∧(x.Time ≠ y.Time ∨ c ≠ d)
def counts (l:List bJ) (cl:List Int) (i:Nat):Prop:=Cu l i∧∀ k,Cu l k→¬ KX l cl i k∧(k<i→l[k]? ≠ l[i]?)
def we (l:List bJ) (a b:Int):Prop:=∃ x y,l[a.toNat]?=some x∧l[b.toNat]?=some y∧jL x y<0
structure nD (l:List bJ) (cl:List Int) (a:List Int):Prop where
 sorted:a.Pairwise (we l)
 mem:∀ i,i ∈ a ↔ 0≤i∧counts l cl i.toNat
theorem ME (l:List bJ) (a:Int):¬ we l a a:=by
 rintro ⟨x,y,h1,h2,h3⟩
 rw [h1] at h2; cases h2
 rw [jM] at h3; omega
theorem wg (l:List bJ) (a b c:Int) (h:we l a b) (h':we l b c):we l a c:=by
 obtain ⟨x,y,h1,h2,h3⟩:=h
 obtain ⟨y',z,h4,h5,h6⟩:=h'
 rw [h2] at h4; cases h4
 refine ⟨x,z,h1,h5,?_⟩
 rw [jM] at *; omega
theorem nD.unique {l:List bJ} {cl:List Int} {a b:List Int} (h:nD l cl a) (h':nD l cl b):a=b :=
 qW (ME l) (wg l) h.sorted h'.sorted fun i=>by rw [h.mem,h'.mem]
def Canon (l:List bJ) (cl:List Int) (r:List Int × Int):Prop :=
 if l.length ≠ cl.length then r=([],1) else ∃ a,nD l cl a∧r=if 300<a.length then ([],3) else (a,0)
theorem Canon.unique {l:List bJ} {cl:List Int} {r s:List Int × Int} (h:Canon l cl r) (h':Canon l cl s):r=s:=by
 unfold Canon at *
 split at h
 ·rename_i hl; rw [if_pos hl] at h'; rw [h,h']
 ·rename_i hl; rw [if_neg hl] at h'
  obtain ⟨a,h1,rfl⟩:=h
  obtain ⟨b,h2,rfl⟩:=h'
  rw [h1.unique h2]
end Go.Sh
namespace Go.Sh
open Go.L
theorem HL {l:List bJ} {i:Nat} (h:i<l.length):Cu l i ↔ l[i].nG=true:=by
 unfold Cu; simp [h]
theorem Pr {l:List bJ} {i:Nat} (h:l.length≤i):¬ Cu l i:=by
 rintro ⟨x,h1,_⟩; rw [List.getElem?_eq_none h] at h1; cases h1
theorem Fu {l:List bJ} {cl:List Int} {i k:Nat} (hi:counts l cl i) (hk:counts l cl k) (h:l[i]?=l[k]?):i=k:=by
 rcases Nat.lt_trichotomy i k with h1 | h1 | h1
 ·exact absurd h ((hk.2 i hi.1).2 h1)
 ·exact h1
 ·exact absurd h.symm ((hi.2 k hk.1).2 h1)
theorem mR {l:List bJ} {cl:List Int} {i:Nat} (h:counts l cl i):i<l.length:=by
 obtain ⟨⟨x,h1,_⟩,_⟩:=h
 exact (List.getElem?_eq_some_iff.1 h1).1
theorem vr {l:List bJ} {cl:List Int} {i k:Nat} (hi:counts l cl i) (hk:counts l cl k) (h:i ≠ k):we l i k ∨ we l k i:=by
 have h1:=mR hi
 have h2:=mR hk
 have h3:l[i] ≠ l[k]:=fun he=>h (Fu hi hk (by simp [h1,h2,he]))
 have h4:¬ jL l[i] l[k]=0:=fun he=>h3 (Fq.1 he)
 rcases Int.lt_or_gt_of_ne h4 with h5 | h5
 ·exact .inl ⟨l[i],l[k],by simp [h1],by simp [h2],h5⟩
 ·exact .inr ⟨l[k],l[i],by simp [h2],by simp [h1],KU.1 h5⟩
end Go.Sh
namespace Go.Sh
open Go.L
def sat (l:List bJ) (i:Int):bJ:=l.getD i.toNat default
def cat (cl:List Int) (i:Int):Int:=cl.getD i.toNat 0
def sH (l:List bJ) (i:Int):Prop:=0≤i∧Cu l i.toNat
theorem xM {l:List bJ} {i:Int} (h:sH l i):i.toNat<l.length:=by
 obtain ⟨_,x,h1,_⟩:=h; exact (List.getElem?_eq_some_iff.1 h1).1
theorem p8 {l:List bJ} {i:Int} (h:sH l i):idx l i=some (sat l i):=by
 have:=xM h
 rw [k6]; exact ⟨h.1,by simp [sat,this]⟩
theorem EW {l:List bJ} {cl:List Int} {i:Int} (h:sH l i) (hl:l.length=cl.length):idx cl i=some (cat cl i):=by
 have:=xM h
 have:i.toNat<cl.length:=by omega
 rw [k6]; exact ⟨h.1,by simp [cat,this]⟩
theorem lZ {l:List bJ} {i:Int} (h:sH l i):l[i.toNat]?=some (sat l i):=by
 have:=xM h; simp [sat,this]
theorem EV {l:List bJ} {cl:List Int} {i:Int} (h:sH l i) (hl:l.length=cl.length):cl[i.toNat]?=some (cat cl i):=by
 have:=xM h
 have:i.toNat<cl.length:=by omega
 simp [cat,this]
def diff (l:List bJ) (cl:List Int) (i k:Int):Prop:=sat l i ≠ sat l k ∨ cat cl i ≠ cat cl k
def rp (l:List bJ) (i j:Int):Int:=if eG (sat l i) (sat l j) ≠ 0 then eG (sat l i) (sat l j) else oz i j
theorem mP {l:List bJ} {i j:Int}:rp l i j<0 ↔ ((sat l i).Source<(sat l j).Source ∨ (sat l i).Source=(sat l j).Source∧((sat l i).Seq<(sat l j).Seq ∨ (sat l i).Seq=(sat l j).Seq∧i<j)):=by
 have h1:=@fT (sat l i) (sat l j)
 have h2:=@eH (sat l i) (sat l j)
 have h3:=@rr i j
 unfold rp; split <;> omega
theorem IY {F:Nat} (hF:10≤F) {l:List bJ} {i j:Int} (hi:sH l i) (hj:sH l j):zw F i j l=some (rp l i j):=by
 simp only [zw,p8 hi,p8 hj,tC hF,pK,Option.bind_some]
 rw [Uq (by simp) (by simp; omega)]
 simp only [Option.bind_some,QY,rp]
 repeat' split
 all_goals simp_all
structure kT (l:List bJ) (cl:List Int) (T:List Int) (gs:List gQ):Prop where
 first:∀ g ∈ gs,g.first ∈ T
 each:∀ t ∈ T,∃ g ∈ gs,eG (sat l g.first) (sat l t)=0∧g.first≤t
 R5:∀ g ∈ gs,(g.gy=true ↔ ∃ t ∈ T,eG (sat l g.first) (sat l t)=0∧diff l cl g.first t)
 mK:gs.Pairwise fun g h=>eG (sat l g.first) (sat l h.first)<0
 len:gs.length≤T.length
 last:∀ g,gs.getLast?=some g→∀ t ∈ T,¬ eG (sat l g.first) (sat l t)<0
theorem kT.new {l:List bJ} {cl:List Int} {T:List Int} {gs:List gQ} {x:Int} (h:kT l cl T gs) (hx:∀ t ∈ T,rp l t x<0) (hn:∀ g,gs.getLast?=some g→eG (sat l g.first) (sat l x) ≠ 0):kT l cl (T++[x]) (gs++[⟨x,false⟩]):=by
 have hlt:∀ g ∈ gs,eG (sat l g.first) (sat l x)<0:=by
  intro g hg
  rcases List.eq_nil_or_concat gs with rfl | ⟨EZ,g',rfl⟩
  ·simp at hg
  ·rw [List.concat_eq_append] at *
   have h1:eG (sat l g'.first) (sat l x)<0:=by
    have a1:=hn g' (by simp)
    have a2:=hx g'.first (h.first g' (by simp))
    rw [mP] at a2; rw [fT]; have:=mt (@eH (sat l g'.first) (sat l x)).2 a1; omega
   rcases List.mem_append.1 hg with hg | hg
   ·have:=(List.pairwise_append.1 h.mK).2.2 g hg g' (by simp)
    rw [fT] at *; omega
   ·simp at hg; subst hg; exact h1
 have WN:∀ t ∈ T,eG (sat l t) (sat l x)<0:=by
  intro t ht
  obtain ⟨g,hg,h1,_⟩:=h.each t ht
  have h2:=hlt g hg
  rw [eH] at h1; rw [fT] at *; omega
 constructor
 ·intro g hg
  rcases List.mem_append.1 hg with hg | hg
  ·simp [h.first g hg]
  ·simp at hg; subst hg; simp
 ·intro t ht
  rcases List.mem_append.1 ht with ht | ht
  ·obtain ⟨g,hg,h1⟩:=h.each t ht; exact ⟨g,by simp [hg],h1⟩
  ·simp at ht; subst ht; exact ⟨⟨t,false⟩,by simp,by simp [eH],Int.le_refl _⟩
 ·intro g Aw
  rcases List.mem_append.1 Aw with hg | hg
  ·rw [h.R5 g hg]
   constructor
   ·rintro ⟨t,ht,h1⟩; exact ⟨t,by simp [ht],h1⟩
   ·rintro ⟨t,ht,h1⟩
    have:=hlt g hg
    rcases List.mem_append.1 ht with ht | ht
    ·exact ⟨t,ht,h1⟩
    ·simp at ht; rw [ht] at h1; omega
  ·simp at hg; subst hg
   simp only [Bool.false_eq_true,false_iff]
   rintro ⟨t,ht,h1,h2⟩
   rcases List.mem_append.1 ht with ht | ht
   ·have:=WN t ht; rw [eH] at h1; rw [fT] at this; omega
   ·simp at ht; subst ht; rcases h2 with h2 | h2 <;> exact h2 rfl
 ·rw [List.pairwise_append]; exact ⟨h.mK,by simp,fun g hg g' ye=>by simp at ye; subst ye; exact hlt g hg⟩
 ·simp; exact h.len
 ·intro g hg t ht
  simp at hg; subst hg
  show ¬ eG (sat l x) (sat l t)<0
  rcases List.mem_append.1 ht with ht | ht
  ·have:=WN t ht; rw [fT] at *; omega
  ·simp at ht; subst ht; rw [fT]; omega
theorem kT.old {l:List bJ} {cl:List Int} {T:List Int} {gs:List gQ} {g:gQ} {x:Int} {b:Bool} (h:kT l cl T (gs++[g])) (hx:∀ t ∈ T,rp l t x<0) (he:eG (sat l g.first) (sat l x)=0) (hb:b=true ↔ g.gy=true ∨ diff l cl g.first x):kT l cl (T++[x]) (gs++[⟨g.first,b⟩]):=by
 have hgx:g.first≤x:=by
  have:=hx g.first (h.first g (by simp))
  rw [mP] at this; rw [eH] at he; omega
 have hlt:∀ k ∈ gs,eG (sat l k.first) (sat l x)<0:=fun k hk=>by
  have:=(List.pairwise_append.1 h.mK).2.2 k hk g (by simp)
  rw [eH] at he; rw [fT] at *; omega
 constructor
 ·intro k hk
  rcases List.mem_append.1 hk with hk | hk
  ·simp [h.first k (by simp [hk])]
  ·simp at hk; subst hk; simp [h.first g (by simp)]
 ·intro t ht
  rcases List.mem_append.1 ht with ht | ht
  ·obtain ⟨k,hk,h1⟩:=h.each t ht
   rcases List.mem_append.1 hk with hk | hk
   ·exact ⟨k,by simp [hk],h1⟩
   ·simp at hk; subst hk; exact ⟨⟨k.first,b⟩,by simp,h1⟩
  ·simp at ht; subst ht; exact ⟨⟨g.first,b⟩,by simp,he,hgx⟩
 ·intro k hk
  rcases List.mem_append.1 hk with hk | hk
  ·rw [h.R5 k (by simp [hk])]
   constructor
   ·rintro ⟨t,ht,h1⟩; exact ⟨t,by simp [ht],h1⟩
   ·rintro ⟨t,ht,h1⟩
    rcases List.mem_append.1 ht with ht | ht
    ·exact ⟨t,ht,h1⟩
    ·simp at ht; subst ht; have:=hlt k hk; omega
  ·simp at hk; subst hk
   show b=true ↔ _
   rw [hb,h.R5 g (by simp)]
   constructor
   ·rintro (⟨t,ht,h1⟩ | h1)
    ·exact ⟨t,by simp [ht],h1⟩
    ·exact ⟨x,by simp,he,h1⟩
   ·rintro ⟨t,ht,h1,h2⟩
    rcases List.mem_append.1 ht with ht | ht
    ·exact .inl ⟨t,ht,h1,h2⟩
    ·simp at ht; subst ht; exact .inr h2
 ·have:=h.mK
  rw [List.pairwise_append] at this ⊢
  exact ⟨this.1,by simp,fun k hk g' ye=>by simp at ye; subst ye; exact this.2.2 k hk g (by simp)⟩
 ·have:=h.len; simp at this ⊢; omega
 ·intro k hk t ht
  simp at hk; subst hk
  rcases List.mem_append.1 ht with ht | ht
  ·exact h.last g (by simp) t ht
  ·simp at ht; subst ht; show ¬ eG (sat l g.first) _<0; omega
theorem BY {F:Nat} (hF:10≤F) {l:List bJ} {cl:List Int} (hl:l.length=cl.length) (hb:l.length<1000000) {S:List Int} (hS:S.Pairwise fun a b=>rp l a b<0) (hv:∀ i ∈ S,sH l i) (hSl:S.length≤l.length) :
  ∀ n (k:Int) (gs:List gQ),(∃ T U,S=T++U∧k=(T.length:Int)∧kT l cl T gs)→(S.length - k.toNat)<n→∃ r,zt F l cl S n k gs=some r∧kT l cl S r:=by
 refine MC (L:=zt F l cl S) (B:=DP F l cl S) (fun _=>rfl) _ (fun (k:Int) (_:List gQ)=>S.length - k.toNat) _ ?_
 rintro rec k gs ⟨T,U,N9,rfl,hG⟩ FR
 unfold DP
 cases U with
 | nil =>
  have d1:decide ((T.length:Int)<(S.length:Int))=false:=by subst N9; simp
  simp only [d1,Bool.false_eq_true,if_false]
  refine ⟨gs,rfl,?_⟩
  subst N9; simpa using hG
 | cons x U =>
  have d1:decide ((T.length:Int)<(S.length:Int))=true:=by subst N9; exact U3 T x U
  have J7:idx S (T.length:Int)=some x:=by subst N9; exact pj T x U
  have hTl:T.length<1000000:=by have:=congrArg List.length N9; simp at this; omega
  have hx:∀ t ∈ T,rp l t x<0:=fun t ht=>by
   rw [N9] at hS; exact (List.pairwise_append.1 hS).2.2 t ht x (by simp)
  have vx:sH l x:=hv x (by rw [N9]; simp)
  have Qx:∀ EZ,kT l cl (T++[x]) EZ→∃ r,rec (i64 ((T.length:Int)+1)) EZ=some r∧kT l cl S r:=fun EZ ye=>by
   rw [nxt T x (by omega)]
   refine FR _ _ ⟨T++[x],U,by simp [N9],rfl,ye⟩ ?_
   have:=congrArg List.length N9
   simp at this ⊢; omega
  simp only [d1,if_true,J7,Option.bind_some]
  have Va:gs.length≤T.length:=hG.len
  rcases List.eq_nil_or_concat gs with rfl | ⟨EZ,g,rfl⟩
  ·have:decide (i64 ((([]:List gQ).length:Int) - 1)<0)=true:=by rw [bR (by simp) (by simp)]; simp
   simp only [this,if_true,Option.bind_some]
   rw [dp (by simp)]
   exact Qx _ (hG.new hx (by simp))
  ·rw [List.concat_eq_append] at *
   simp only [List.length_append,List.length_singleton] at Va
   have hw:i64 (((EZ++[g]).length:Int) - 1)=(EZ.length:Int):=by
    simp only [List.length_append,List.length_singleton]
    rw [bR (by omega) (by omega)]; omega
   have hgx:idx (EZ++[g]) (EZ.length:Int)=some g:=pj EZ g []
   have SE:decide ((EZ.length:Int)<0)=false:=by simp
   have vg:sH l g.first:=hv _ (by rw [N9]; simp [hG.first g (by simp)])
   have U7:app (EZ++[g]) [gQ.mk x false]=some (EZ++[g]++[gQ.mk x false]):=dp (by simp; omega)
   simp only [hw,SE,hgx,p8 vg,p8 vx,EW vg hl,EW vx hl,tC hF,Bool.false_eq_true,if_false,Option.bind_some,bne_iff_ne,ne_eq,U7]
   by_cases he:eG (sat l g.first) (sat l x)=0
   ·simp only [he,not_true_eq_false,if_false,Bool.not_eq_eq_eq_not,Bool.not_true,decide_eq_false_iff_not]
    have ju:(EZ++[g]).set ((EZ.length:Int)).toNat (gQ.mk g.first true)=EZ++[gQ.mk g.first true]:=by simp
    by_cases hd:sat l g.first=sat l x
    ·simp only [hd,not_true_eq_false,if_false,Option.bind_some,bne_iff_ne,ne_eq]
     by_cases hc:cat cl g.first=cat cl x
     ·simp only [hc,not_true_eq_false,if_false]
      have:=hG.old (b:=g.gy) hx he ⟨.inl,fun h=>h.elim id fun h=>(h.elim (fun h=>absurd hd h) fun h=>absurd hc h)⟩
      exact Qx _ this
     ·simp only [hc,not_false_eq_true,if_true,ju]
      exact Qx _ (hG.old (b:=true) hx he ⟨fun _=>.inr (.inr hc),fun _=>rfl⟩)
    ·simp only [hd,not_false_eq_true,if_true,Option.bind_some,ju]
     exact Qx _ (hG.old (b:=true) hx he ⟨fun _=>.inr (.inl hd),fun _=>rfl⟩)
   ·simp only [he,not_false_eq_true,if_true]
    exact Qx _ (hG.new hx (by simpa using he))
theorem Am {F:Nat} (hF:10≤F) {l:List bJ} {cl:List Int} (hl:l.length=cl.length) (hb:l.length<1000000) (Qq:l.length<F) :
  ∀ n (k:Int) (acc:List Int),(∃ j:Nat,k=j∧j≤l.length∧acc.length≤j∧acc.Pairwise (·<·)∧∀ i,i ∈ acc ↔ sH l i∧i<j)→(l.length - k.toNat)<n →
   ∃ r,zr F l cl n k acc=some r∧∃ S,(∀ i,i ∈ S ↔ sH l i)∧S.length≤l.length∧kT l cl S r:=by
 refine MC (L:=zr F l cl) (B:=DO F l cl) (fun _=>rfl) _ (fun (k:Int) (_:List Int)=>l.length - k.toNat) _ ?_
 rintro rec k acc ⟨j,rfl,hj,hlen,hs,hm⟩ FR
 unfold DO
 by_cases hlt:j<l.length
 ·have d1:decide ((j:Int)<(l.length:Int))=true:=by simp; exact hlt
  have Cc:i64 ((j:Int)+1)=((j+1:Nat):Int):=by rw [bR (by omega) (by omega)]; rfl
  simp only [d1,if_true,k5 hlt,P8,Option.bind_some]
  by_cases hg:l[j].nG=true
  ·simp only [hg,if_true]
   rw [dp (by simp; omega)]
   simp only [Option.bind_some,Cc]
   refine FR _ _ ⟨j+1,rfl,by omega,by simp; omega,?_,fun i=>?_⟩ (by simp; omega)
   ·rw [List.pairwise_append]; exact ⟨hs,by simp,fun a ha b hb=>by simp at hb; subst hb; exact ((hm a).1 ha).2⟩
   ·simp only [List.mem_append,List.mem_singleton,hm]
    constructor
    ·rintro (⟨h1,h2⟩ | rfl)
     ·exact ⟨h1,by omega⟩
     ·exact ⟨⟨by omega,by simpa using (HL hlt).2 hg⟩,by omega⟩
    ·rintro ⟨h1,h2⟩
     by_cases h:i=(j:Int)
     ·exact .inr h
     ·exact .inl ⟨h1,by omega⟩
  ·simp only [bF hg,Bool.false_eq_true,if_false,Cc]
   refine FR _ _ ⟨j+1,rfl,by omega,by omega,hs,fun i=>?_⟩ (by simp; omega)
   rw [hm]
   constructor
   ·rintro ⟨h1,h2⟩; exact ⟨h1,by omega⟩
   ·rintro ⟨h1,h2⟩
    refine ⟨h1,?_⟩
    by_cases h:i=(j:Int)
    ·subst h; exact absurd ((HL hlt).1 (by simpa using h1.2)) hg
    ·omega
 ·have d1:decide ((j:Int)<(l.length:Int))=false:=by simp; omega
  simp only [d1,Bool.false_eq_true,if_false]
  have hv:∀ i,i ∈ acc ↔ sH l i:=fun i=>by
   rw [hm]
   constructor
   ·exact fun h=>h.1
   ·intro h; refine ⟨h,?_⟩; have:=xM h; have:=h.1; omega
  obtain ⟨S,h1,h2,h3⟩:=EA (c:=fun a0 a1=>zw F a0 a1 l) (xs:=acc) (rp l) (by omega) (fun x hx y hy=>IY hF ((hv x).1 hx) ((hv y).1 hy)) (fun x _=>by rw [mP]; omega)
   (fun x _ y _ z _ a b=>by rw [mP] at *; omega) (fun x _ y _ z _ a b=>by rw [mP] at *; omega) (hs.imp fun {a b} h=>by simp only [mP]; omega)
  simp only [h1,Option.bind_some]
  have hSv:∀ i,i ∈ S ↔ sH l i:=fun i=>by rw [h2.mem_iff,hv]
  have hSl:S.length≤l.length:=by rw [h2.length_eq]; omega
  obtain ⟨r,h4,h5⟩:=BY hF hl hb h3 (fun i hi=>(hSv i).1 hi) hSl F 0 [] ⟨[],S,rfl,rfl,⟨by simp,by simp,by simp,by simp,by simp,by simp⟩⟩ (by simp; omega)
  exact ⟨r,h4,S,hSv,hSl,h5⟩
structure sI (l:List bJ) (cl:List Int) (gs:List gQ):Prop where
 first:∀ g ∈ gs,sH l g.first
 each:∀ t,sH l t→∃ g ∈ gs,eG (sat l g.first) (sat l t)=0∧g.first≤t
 R5:∀ g ∈ gs,(g.gy=true ↔ ∃ t,sH l t∧eG (sat l g.first) (sat l t)=0∧diff l cl g.first t)
 mK:gs.Pairwise fun g h=>eG (sat l g.first) (sat l h.first)<0
 len:gs.length≤l.length
theorem Lc {F:Nat} (hF:10≤F) {l:List bJ} {cl:List Int} (hl:l.length=cl.length) (hb:l.length<1000000) (Qq:l.length<F):∃ gs,Ie F l cl=some gs∧sI l cl gs:=by
 obtain ⟨r,h1,S,h2,h3,h4⟩:=Am hF hl hb Qq F 0 [] ⟨0,rfl,by omega,by simp,by simp,fun i=>by simp [sH]; omega⟩ (by simpa using Qq)
 refine ⟨r,h1,fun g hg=>(h2 _).1 (h4.first g hg),fun t ht=>h4.each t ((h2 t).2 ht),fun g hg=>?_,h4.mK,Nat.le_trans h4.len h3⟩
 rw [h4.R5 g hg]
 simp only [h2]
end Go.Sh
namespace Go.Sh
open Go.L
theorem Ft {l:List bJ} {cl:List Int} {gs:List gQ} (hl:l.length=cl.length) (hG:sI l cl gs) (i:Int):(0≤i∧counts l cl i.toNat) ↔ ∃ g ∈ gs,g.gy=false∧g.first=i:=by
 have Qs:∀ a b:Int,sH l a→sH l b→(KX l cl a.toNat b.toNat ↔ eG (sat l a) (sat l b)=0∧((sat l a).Time ≠ (sat l b).Time ∨ cat cl a ≠ cat cl b)):=fun a b ha hb=>by
  unfold KX UF
  rw [eH,lZ ha,lZ hb,EV ha hl,EV hb hl]
  simp only [Option.some.injEq]
  constructor
  ·rintro ⟨x,y,c,d,rfl,rfl,rfl,rfl,h⟩; exact h
  ·intro h; exact ⟨_,_,_,_,rfl,rfl,rfl,rfl,h⟩
 have heq:∀ x y:bJ,eG x y=0→(x=y ↔ x.Time=y.Time):=fun x y h=>by
  rw [eH] at h
  cases x; cases y; simp at h ⊢; simp [h]
 constructor
 ·rintro ⟨h0,hc⟩
  have hv:sH l i:=⟨h0,hc.1⟩
  obtain ⟨g,hg,h1,h2⟩:=hG.each i hv
  have vg:=hG.first g hg
  have hnd:∀ t,sH l t→¬ (eG (sat l i) (sat l t)=0∧((sat l i).Time ≠ (sat l t).Time ∨ cat cl i ≠ cat cl t)):=fun t ht h=>(hc.2 t.toNat ht.2).1 ((Qs i t hv ht).2 h)
  have h1':eG (sat l i) (sat l g.first)=0:=by rw [eH] at *; omega
  have hgi:g.first=i:=by
   by_cases hlt:g.first<i
   ·have a1:=hnd _ vg
    have a2:sat l g.first=sat l i:=(heq _ _ h1).2 (Decidable.byContradiction fun eO=>a1 ⟨h1',.inl fun h=>eO h.symm⟩)
    have a3:=(hc.2 g.first.toNat vg.2).2 (by have:=vg.1; omega)
    rw [lZ vg,lZ hv,a2] at a3
    exact absurd rfl a3
   ·omega
  refine ⟨g,hg,?_,hgi⟩
  cases hd:g.gy with
  | false=>rfl
  | true =>
   obtain ⟨t,ht,b1,b2⟩:=(hG.R5 g hg).1 hd
   rw [hgi] at b1 b2
   refine absurd ?_ (hnd t ht)
   refine ⟨b1,?_⟩
   rcases b2 with b2 | b2
   ·exact .inl fun h=>b2 ((heq _ _ b1).2 h)
   ·exact .inr b2
 ·rintro ⟨g,hg,hd,rfl⟩
  have vg:=hG.first g hg
  refine ⟨vg.1,vg.2,fun k hk=>?_⟩
  have vk:sH l (k:Int):=⟨by omega,by simpa using hk⟩
  constructor
  ·intro h
   have h':=(Qs g.first k vg vk).1 (by simpa using h)
   have:g.gy=true:=(hG.R5 g hg).2 ⟨k,vk,h'.1,by
    rcases h'.2 with h | h
    ·exact .inl fun he=>h (by rw [he])
    ·exact .inr h⟩
   rw [hd] at this; cases this
  ·intro hlt he
   have FB:sat l k=sat l g.first:=by
    have:=lZ vk
    simp only [Int.toNat_natCast] at this
    rw [this,lZ vg] at he; exact Option.some.inj he
   obtain ⟨g',ye,h1,h2⟩:=hG.each k vk
   have hgg:eG (sat l g'.first) (sat l g.first)=0:=by rw [← FB]; exact h1
   have:g'=g:=by
    by_cases h:g'=g
    ·exact h
    ·have ha:=hG.mK
     have:eG (sat l g'.first) (sat l g.first)<0 ∨ eG (sat l g.first) (sat l g'.first)<0:=by
      obtain ⟨a,ZW⟩:=List.mem_iff_getElem.1 ye
      obtain ⟨b,jP⟩:=List.mem_iff_getElem.1 hg
      rw [List.pairwise_iff_getElem] at ha
      obtain ⟨la,rfl⟩:=ZW
      obtain ⟨lb,rfl⟩:=jP
      rcases Nat.lt_trichotomy a b with h3 | h3 | h3
      ·exact .inl (ha a b la lb h3)
      ·subst h3; exact absurd rfl h
      ·exact .inr (ha b a lb la h3)
     rw [eH] at hgg; rw [fT,fT] at this; omega
   subst this
   have:=vg.1; omega
theorem KQ {F:Nat} (hF:10≤F) {l:List bJ} {i j:Int} (hi:sH l i) (hj:sH l j):zi F i j l=some (jL (sat l i) (sat l j)):=by
 simp only [zi,p8 hi,p8 hj,xq hF,Option.bind_some]
def iV (gs:List gQ):List Int:=(gs.filter fun g=>!g.gy).map (·.first)
theorem Fw (gs:List gQ):(iV gs).length≤gs.length:=by
 unfold iV; rw [List.length_map]; exact List.length_filter_le _ _
theorem vn {F:Nat} (hF:10≤F) {l:List bJ} {cl:List Int} (hl:l.length=cl.length) (hb:l.length<1000000) {gs:List gQ} (hG:sI l cl gs) :
  ∀ n (k:Int) (acc:List Int),(∃ p s,gs=p++s∧k=(p.length:Int)∧acc=iV p)→(gs.length - k.toNat)<n→∃ r,zf F l gs n k acc=some r∧Canon l cl r:=by
 refine MC (L:=zf F l gs) (B:=De F l gs) (fun _=>rfl) _ (fun (k:Int) (_:List Int)=>gs.length - k.toNat) _ ?_
 rintro rec k acc ⟨p,s,s6,rfl,rfl⟩ FR
 unfold De
 have Va:=hG.len
 have yN:p.length≤gs.length:=by rw [s6]; simp
 have Bf:=Fw p
 cases s with
 | cons g s =>
  have d1:decide ((p.length:Int)<(gs.length:Int))=true:=by rw [s6]; exact U3 p g s
  have J7:idx gs (p.length:Int)=some g:=by rw [s6]; exact pj p g s
  have hm:gs.length - ((p++[g]).length:Int).toNat<gs.length - (p.length:Int).toNat:=by
   have:=congrArg List.length s6; simp at this ⊢; omega
  simp only [d1,if_true,J7,Option.bind_some,nxt p g (by omega)]
  cases hd:g.gy with
  | false =>
   simp only [Bool.not_false,if_true]
   rw [dp (by simp; omega)]
   exact FR _ _ ⟨p++[g],s,by simp [s6],rfl,by simp [iV,hd]⟩ hm
  | true =>
   simp only [Bool.not_true,Bool.false_eq_true,if_false]
   exact FR _ _ ⟨p++[g],s,by simp [s6],rfl,by simp [iV,hd]⟩ hm
 | nil =>
  have hpg:gs=p:=by simpa using s6
  subst hpg
  have d1:decide ((gs.length:Int)<(gs.length:Int))=false:=by simp
  simp only [d1,Bool.false_eq_true,if_false]
  have eP:∀ i,i ∈ iV gs ↔ 0≤i∧counts l cl i.toNat:=fun i=>by
   rw [Ft hl hG]
   simp only [iV,List.mem_map,List.mem_filter,Bool.not_eq_eq_eq_not,Bool.not_true]
   constructor
   ·rintro ⟨g,⟨h1,h2⟩,h3⟩; exact ⟨g,h1,h2,h3⟩
   ·rintro ⟨g,h1,h2,h3⟩; exact ⟨g,⟨h1,h2⟩,h3⟩
  have Ci:∀ i ∈ iV gs,sH l i:=fun i hi=>by have:=(eP i).1 hi; exact ⟨this.1,this.2.1⟩
  have hnd:(iV gs).Pairwise fun a b=>a ≠ b:=by
   unfold iV
   rw [List.pairwise_map]
   refine (hG.mK.filter _).imp fun {a b} h he=>?_
   rw [he,fT] at h; omega
  have hlt:∀ i j,sH l i→sH l j→(jL (sat l i) (sat l j)<0 ↔ we l i j):=fun i j hi hj=>by
   unfold we; rw [lZ hi,lZ hj]
   constructor
   ·intro h; exact ⟨_,_,rfl,rfl,h⟩
   ·rintro ⟨x,y,h1,h2,h3⟩; cases h1; cases h2; exact h3
  obtain ⟨a,h1,h2,h3⟩:=EA (c:=fun a0 a1=>zi F a0 a1 l) (xs:=iV gs) (fun i j=>jL (sat l i) (sat l j)) (by omega) (fun x hx y hy=>KQ hF (Ci x hx) (Ci y hy)) (fun x _=>by rw [jM]; omega)
   (fun x _ y _ z _ p q=>by rw [jM] at *; omega) (fun x _ y _ z _ p q=>by rw [jM] at *; omega) (List.Pairwise.imp_of_mem (fun {x y} hx hy eO=>by
    have cx:=(eP x).1 hx
    have cy:=(eP y).1 hy
    have:=vr cx.2 cy.2 (fun h=>eO (by omega))
    rw [Int.toNat_of_nonneg cx.1,Int.toNat_of_nonneg cy.1,← hlt x y (Ci x hx) (Ci y hy),← hlt y x (Ci y hy) (Ci x hx)] at this
    exact this) hnd)
  have OV:nD l cl a:=⟨List.Pairwise.imp_of_mem (fun {x y} hx hy h=>(hlt x y (Ci x (h2.mem_iff.1 hx)) (Ci y (h2.mem_iff.1 hy))).1 h) h3,fun i=>by rw [h2.mem_iff]; exact eP i⟩
  have hlen:(iV gs).length=a.length:=h2.length_eq.symm
  by_cases VY:300<a.length
  ·have:decide (((iV gs).length:Int) > 300)=true:=by simp; omega
   simp only [this,if_true]
   refine ⟨_,rfl,?_⟩
   unfold Canon; rw [if_neg (by omega)]
   exact ⟨a,OV,by rw [if_pos VY]⟩
  ·have:decide (((iV gs).length:Int) > 300)=false:=by simp; omega
   simp only [this,Bool.false_eq_true,if_false,h1,Option.bind_some]
   refine ⟨_,rfl,?_⟩
   unfold Canon; rw [if_neg (by omega)]
   exact ⟨a,OV,by rw [if_neg VY]⟩
theorem BK {F:Nat} (hF:10≤F) {l:List bJ} {cl:List Int} (hb:l.length<1000000) (Qq:l.length<F):∃ r,zq F l cl=some r∧Canon l cl r:=by
 unfold zq
 by_cases hl:l.length=cl.length
 ·have:((l.length:Int) != (cl.length:Int))=false:=by simp; omega
  simp only [this,Bool.false_eq_true,if_false]
  obtain ⟨gs,h1,h2⟩:=Lc hF hl hb Qq
  simp only [h1,Option.bind_some]
  have:=h2.len
  exact vn hF hl hb h2 F 0 [] ⟨[],gs,rfl,rfl,rfl⟩ (by simp; omega)
 ·have:((l.length:Int) != (cl.length:Int))=true:=by simp; omega
  simp only [this,if_true]
  exact ⟨_,rfl,by unfold Canon; rw [if_pos hl]⟩
end Go.Sh
namespace Go.Sh
open Go.L
def okB (l:List bJ) (i:Nat):Bool:=match l[i]? with | some x=>x.nG | .none=>false
theorem AL {l:List bJ} {i:Nat}:okB l i=true ↔ Cu l i:=by
 unfold okB Cu; cases l[i]? <;> simp
def Hn (l:List bJ) (cl:List Int) (i k:Nat):Bool:=match l[i]?,l[k]?,cl[i]?,cl[k]? with
 | some x,some y,some c,some d=>decide (x.Source=y.Source) && decide (x.Seq=y.Seq) && (decide (x.Time ≠ y.Time) || decide (c ≠ d))
 | _,_,_,_=>false
theorem yI {l:List bJ} {cl:List Int} {i k:Nat}:Hn l cl i k=true ↔ KX l cl i k:=by
 unfold Hn KX UF
 cases l[i]? with
 | none=>simp
 | some x=>cases l[k]? with
  | none=>simp
  | some y=>cases cl[i]? with
   | none=>simp
   | some c=>cases cl[k]? with
    | none=>simp
    | some d=>simp [and_assoc]
def pL (l:List bJ) (cl:List Int) (i:Nat):Bool:=okB l i && (List.range l.length).all fun k=>!okB l k || (!Hn l cl i k && (!decide (k<i) || decide (l[k]? ≠ l[i]?)))
theorem tD {l:List bJ} {cl:List Int} {i:Nat}:pL l cl i=true ↔ counts l cl i:=by
 unfold pL counts
 simp only [Bool.and_eq_true,AL,List.all_eq_true,List.mem_range,Bool.or_eq_true,Bool.not_eq_true',decide_eq_true_eq,decide_eq_false_iff_not]
 constructor
 ·rintro ⟨h1,h2⟩
  refine ⟨h1,fun k hk=>?_⟩
  have Hy:k<l.length:=by
   by_cases h:k<l.length
   ·exact h
   ·exact absurd hk (Pr (by omega))
  rcases h2 k Hy with h | ⟨h3,h4⟩
  ·have:=AL.2 hk; rw [h] at this; cases this
  ·refine ⟨fun h=>?_,fun h=>h4.resolve_left (by omega)⟩
   have:=yI.2 h; rw [h3] at this; cases this
 ·rintro ⟨h1,h2⟩
  refine ⟨h1,fun k hk=>?_⟩
  cases iD:okB l k with
  | false=>exact .inl rfl
  | true =>
   right
   have:=h2 k (AL.1 iD)
   refine ⟨?_,?_⟩
   ·cases hd:Hn l cl i k with
    | false=>rfl
    | true=>exact absurd (yI.1 hd) this.1
   ·by_cases h:k<i
    ·exact .inr (this.2 h)
    ·exact .inl h
def Z9 (l:List bJ) (a b:Int):Bool:=match l[a.toNat]?,l[b.toNat]? with
 | some x,some y=>decide (jL x y<0)
 | _,_=>false
theorem uT {l:List bJ} {a b:Int}:Z9 l a b=true ↔ we l a b:=by
 unfold Z9 we
 cases l[a.toNat]? with
 | none=>simp
 | some x=>cases l[b.toNat]? with
  | none=>simp
  | some y=>simp
def jZ (l:List bJ) (cl:List Int):List Int:=rQ (Z9 l) (((List.range l.length).filter (pL l cl)).map Int.ofNat)
theorem pJ (l:List bJ) (cl:List Int):nD l cl (jZ l cl):=by
 have eP:∀ i,i ∈ ((List.range l.length).filter (pL l cl)).map Int.ofNat ↔ 0≤i∧counts l cl i.toNat:=fun i=>by
  simp only [List.mem_map,List.mem_filter,List.mem_range,tD]
  constructor
  ·rintro ⟨k,⟨h1,h2⟩,rfl⟩; exact ⟨by simp,by simpa using h2⟩
  ·rintro ⟨h1,h2⟩; exact ⟨i.toNat,⟨mR h2,h2⟩,by simp; omega⟩
 constructor
 ·have:=nR (lt:=Z9 l) (l:=((List.range l.length).filter (pL l cl)).map Int.ofNat) (fun a _ b _ c _ h1 h2=>by rw [uT] at *; exact wg l a b c h1 h2) (by
   rw [List.pairwise_map]
   refine List.Pairwise.imp_of_mem (fun {a b} ha hb qo=>?_) ((List.pairwise_lt_range (n:=l.length)).filter _)
   rw [uT,uT]
   simp only [List.mem_filter,tD] at ha hb
   exact vr ha.2 hb.2 (by omega))
  exact this.imp fun h=>uT.1 h
 ·intro i
  rw [jZ,iG.mem_iff]; exact eP i
def sP (l:List bJ) (cl:List Int):List Int × Int:=if l.length ≠ cl.length then ([],1) else if 300<(jZ l cl).length then ([],3) else (jZ l cl,0)
theorem IJ (l:List bJ) (cl:List Int):Canon l cl (sP l cl):=by
 unfold Canon sP
 split
 ·rfl
 ·exact ⟨jZ l cl,pJ l cl,rfl⟩
theorem BJ {F:Nat} (hF:10≤F) {l:List bJ} {cl:List Int} (hb:l.length<1000000) (Qq:l.length<F):zq F l cl=some (sP l cl):=by
 obtain ⟨r,h1,h2⟩:=BK hF (cl:=cl) hb Qq
 rw [h1,h2.unique (IJ l cl)]
structure Tp (t:ax):Prop where
 len:t.L.length≤600
 lo:0≤t.At
 hi:t.At≤600
theorem XV (l:List Int):∃ t,ni l=some t∧Tp t:=by
 unfold ni
 by_cases h:(l.length:Int) > 600
 ·simp only [h,decide_true,if_true]
  rw [show (600:Int)=((600:Nat):Int) from rfl,Ez (by omega)]
  exact ⟨_,rfl,⟨by simp; omega,by simp,by simp⟩⟩
 ·simp only [h,decide_false,Bool.false_eq_true,if_false]
  exact ⟨_,rfl,⟨by simp; omega,by simp,by simp⟩⟩
theorem Zf {t:ax} (h:Tp t):∃ x t',KD t=some (x,t')∧Tp t':=by
 have h1:=h.len; have h2:=h.lo; have h3:=h.hi
 unfold KD
 by_cases hc:t.At ≥ (t.L.length:Int)
 ·simp only [hc,decide_true,if_true]; exact ⟨_,_,rfl,h⟩
 ·simp only [hc,decide_false,Bool.false_eq_true,if_false]
  rw [bR (n:=t.At+1) (by omega) (by omega),bR (by omega) (by omega)]
  have hx:idx t.L (t.At+1 - 1)=some t.L[t.At.toNat]:=by
   rw [k6,show t.At+1 - 1=t.At by omega]
   exact ⟨h2,by simp⟩
  rw [hx]
  exact ⟨_,_,rfl,⟨h1,by simp; omega,by simp; omega⟩⟩
theorem VR (x n:Int) (hn:n≤1000000000):∃ r,pq x n=some r∧0≤r∧(1≤n→r<n)∧(n<1→r=0):=by
 unfold pq
 by_cases h:n<1
 ·simp only [h,decide_true,if_true]; exact ⟨0,rfl,by omega,by omega,by omega⟩
 ·simp only [h,decide_false,Bool.false_eq_true,if_false]
  have hr:Uy x n=some (x.tmod n):=by unfold Uy; rw [if_neg (by omega)]
  simp only [hr,Option.bind_some]
  have b1:x.tmod n<n:=Int.tmod_lt_of_pos x (by omega)
  have b2:-n<x.tmod n:=by
   have:=Int.lt_tmod_of_pos x (show 0<n by omega)
   omega
  by_cases h0:x.tmod n<0
  ·simp only [h0,decide_true,if_true]
   rw [bR (by omega) (by omega)]
   exact ⟨_,rfl,by omega,fun _=>by omega,fun hh=>hh.elim⟩
  ·simp only [h0,decide_false,Bool.false_eq_true,if_false]
   exact ⟨_,rfl,by omega,fun _=>by omega,fun hh=>hh.elim⟩
theorem AI {t:ax} (h:Tp t) (n:Int) (hn:n≤1000000000):∃ x t',gw t n=some (x,t')∧Tp t'∧0≤x∧(1≤n→x<n)∧(n<1→x=0):=by
 obtain ⟨x,t',h1,h2⟩:=Zf h
 obtain ⟨r,h3,h4⟩:=VR x n hn
 exact ⟨r,t',by simp [gw,h1,h3],h2,h4⟩
theorem PL {t:ax} (h:Tp t) (a b:Int) (ha:-1000≤a) (qo:a≤b) (hb:b≤100000000):∃ x t',jI t a b=some (x,t')∧Tp t'∧a≤x∧x≤b:=by
 obtain ⟨x,t',h1,h2,h3,h4,_⟩:=AI h (b - a+1) (by omega)
 refine ⟨a+x,t',?_,h2,by omega,by have:=h4 (by omega); omega⟩
 have:=h4 (by omega)
 simp only [jI]
 rw [bR (n:=b - a) (by omega) (by omega),bR (n:=b - a+1) (by omega) (by omega),h1]
 simp only [Option.bind_some]
 rw [bR (by omega) (by omega)]
theorem X0 {t:ax} (h:Tp t) (n:Int) (hn:n≤1000000000):∃ b t',nC t n=some (b,t')∧Tp t':=by
 obtain ⟨x,t',h1,h2,_⟩:=AI h n hn
 exact ⟨(x == i64 (n - 1)),t',by simp only [nC,h1,Option.bind_some],h2⟩
theorem Uu {t:ax} (h:Tp t) (l:List Int) (hl:1≤l.length) (FF:l.length≤1000):∃ x t',rl t l=some (x,t')∧Tp t'∧x ∈ l:=by
 obtain ⟨x,t',h1,h2,h3,h4,_⟩:=AI h l.length (by omega)
 have:=h4 (by omega)
 have hx:idx l x=some l[x.toNat]:=by rw [k6]; exact ⟨h3,by simp⟩
 exact ⟨l[x.toNat],t',by simp only [rl,h1,Option.bind_some,hx],h2,by simp⟩
end Go.Sh
namespace Go.Sh
open Go.L
def Fh {E:Type} (st:E→bJ) (l:List E) (e:E):Prop:=e ∈ l∧(st e).nG=true∧∀ e' ∈ l,(st e').nG=true→UF (st e') (st e)→e'=e
structure Bz {E:Type} (st:E→bJ) (l C:List E):Prop where
 sorted:C.Pairwise fun a b=>jL (st a) (st b)<0
 mem:∀ e,e ∈ C ↔ Fh st l e
theorem Bz.unique {E:Type} {st:E→bJ} {l C D:List E} (h:Bz st l C) (h':Bz st l D):C=D :=
 qW (R:=fun a b=>jL (st a) (st b)<0) (fun a h=>by rw [jM] at h; omega) (fun a b c h1 h2=>by rw [jM] at *; omega) h.sorted h'.sorted fun e=>by rw [h.mem,h'.mem]
theorem Fh.congr {E:Type} {st:E→bJ} {l m:List E} (h:∀ e,e ∈ l ↔ e ∈ m) (e:E):Fh st l e ↔ Fh st m e:=by
 unfold Fh; simp only [h]
theorem Bz.congr {E:Type} {st:E→bJ} {l m C:List E} (h:∀ e,e ∈ l ↔ e ∈ m) (hC:Bz st l C):Bz st m C :=
 ⟨hC.sorted,fun e=>by rw [hC.mem,Fh.congr h]⟩
structure u4 {E:Type} (st:E→bJ) (l:List E) (cl:List Int):Prop where
 len:l.length=cl.length
 iff:∀ (i:Nat) (x:E) (c:Int),l[i]?=some x→cl[i]?=some c →
  ((∀ (k:Nat) (y:E) (d:Int),l[k]?=some y→cl[k]?=some d→st y=st x→d=c) ↔ (∀ y ∈ l,st y=st x→y=x))
theorem JT {x y:bJ} (h1:x.Time=y.Time) (h2:x.Source=y.Source) (h3:x.Seq=y.Seq):x=y:=by
 cases x; cases y; simp_all
theorem vq {E:Type} {st:E→bJ} {l:List E} {cl:List Int} (h:u4 st l cl) {i:Nat} {x:E} (hx:l[i]?=some x) :
  counts (l.map st) cl i ↔ Fh st l x∧∀ k,k<i→l[k]? ≠ some x:=by
 have hi:i<l.length:=(List.getElem?_eq_some_iff.1 hx).1
 have fQ:i<cl.length:=by have:=h.len; omega
 obtain ⟨c,hc⟩:∃ c,cl[i]?=some c:=⟨cl[i],by simp [fQ]⟩
 have key:=h.iff i x c hx hc
 have J7:(l.map st)[i]?=some (st x):=by simp [hx]
 have hcl:∀ (k:Nat) (y:E),l[k]?=some y→∃ d,cl[k]?=some d:=fun k y hy=>by
  have:k<l.length:=(List.getElem?_eq_some_iff.1 hy).1
  have hk:k<cl.length:=by have:=h.len; omega
  exact ⟨cl[k],by simp [hk]⟩
 constructor
 ·rintro ⟨⟨x',h1,h2⟩,h3⟩
  rw [J7] at h1; cases h1
  have oB:∀ (k:Nat) (y:E) (d:Int),l[k]?=some y→cl[k]?=some d→(st y).nG=true→UF (st y) (st x)→(st y).Time=(st x).Time∧d=c:=fun k y d hy hd hg hs=>by
   have hk:(l.map st)[k]?=some (st y):=by simp [hy]
   have:=(h3 k ⟨st y,hk,hg⟩).1
   apply Classical.byContradiction
   intro hn
   refine this ⟨st x,st y,c,d,J7,hk,hc,hd,⟨hs.1.symm,hs.2.symm⟩,?_⟩
   by_cases ht:(st x).Time=(st y).Time
   ·exact .inr fun hcd=>hn ⟨ht.symm,hcd.symm⟩
   ·exact .inl ht
  have heq:∀ y ∈ l,st y=st x→y=x:=key.1 fun k y d hy hd hs=>(oB k y d hy hd (by rw [hs]; exact h2) (by rw [hs]; exact ⟨rfl,rfl⟩)).2
  refine ⟨⟨List.mem_of_getElem? hx,h2,fun y hy hg hs=>?_⟩,fun k hk hkx=>?_⟩
  ·obtain ⟨k,hk⟩:=List.getElem?_of_mem hy
   obtain ⟨d,hd⟩:=hcl k y hk
   exact heq y hy (JT (oB k y d hk hd hg hs).1 hs.1 hs.2)
  ·have hkk:(l.map st)[k]?=some (st x):=by simp [hkx]
   exact (h3 k ⟨st x,hkk,h2⟩).2 hk (by rw [hkk,J7])
 ·rintro ⟨⟨h1,h2,h3⟩,h4⟩
  refine ⟨⟨st x,J7,h2⟩,fun k hk=>⟨?_,fun xT he=>?_⟩⟩
  ·rintro ⟨x',y',c',d,a1,a2,a3,a4,a5,a6⟩
   rw [J7] at a1; cases a1
   rw [hc] at a3; cases a3
   simp only [List.getElem?_map,Option.map_eq_some_iff] at a2
   obtain ⟨y,hy,rfl⟩:=a2
   have hgy:(st y).nG=true:=by
    obtain ⟨z,b1,b2⟩:=hk
    simp only [List.getElem?_map,hy,Option.map_some,Option.some.injEq] at b1
    rw [b1]; exact b2
   have Of:y=x:=h3 y (List.mem_of_getElem? hy) hgy ⟨a5.1.symm,a5.2.symm⟩
   subst Of
   rcases a6 with a6 | a6
   ·exact a6 rfl
   ·refine a6 (key.2 (fun z hz hzx=>h3 z hz (by rw [hzx]; exact h2) (by rw [hzx]; exact ⟨rfl,rfl⟩)) k y d hy a4 rfl).symm
  ·obtain ⟨z,b1,b2⟩:=hk
   rw [b1,J7] at he
   cases he
   simp only [List.getElem?_map,Option.map_eq_some_iff] at b1
   obtain ⟨y,hy,Of⟩:=b1
   have:y=x:=h3 y (List.mem_of_getElem? hy) (by rw [Of]; exact h2) (by rw [Of]; exact ⟨rfl,rfl⟩)
   subst this
   exact h4 k xT hy
theorem tG {E:Type} [DecidableEq E] {x:E}:∀ {l:List E},x ∈ l→∃ i:Nat,l[i]?=some x∧∀ k,k<i→l[k]? ≠ some x
  | [],h=>by simp at h
  | y :: r,h=>by
    by_cases yQ:y=x
    · exact ⟨0,by simp [yQ],by omega⟩
    · have hr : x ∈ r := by rcases List.mem_cons.1 h with h | h
                            · exact absurd h.symm yQ
                            · exact h
      obtain ⟨i,h1,h2⟩:=tG hr
      refine ⟨i+1,by simpa using h1,fun k hk=>?_⟩
      cases k with
      | zero=>simpa using yQ
      | succ k=>simpa using h2 k (by omega)
def lg {E:Type} (l:List E) (a:List Int):List E:=a.filterMap fun i=>l[i.toNat]?
theorem tg {E:Type} {l:List E}:∀ {a:List Int},(∀ i ∈ a,i.toNat<l.length)→(lg l a).length=a.length
 | [],_=>rfl
 | i :: a,h=>by
  have hi:=h i (by simp)
  have:=tg (l:=l) (a:=a) fun j hj=>h j (by simp [hj])
  simp only [lg] at this
  simp [lg,hi,this]
theorem HE {E:Type} [DecidableEq E] {st:E→bJ} {l:List E} {cl:List Int} (h:u4 st l cl) {a:List Int} (ha:nD (l.map st) cl a):Bz st l (lg l a):=by
 have hlt:∀ i ∈ a,i.toNat<l.length:=fun i hi=>by have:=mR ((ha.mem i).1 hi).2; simpa using this
 refine ⟨?_,fun e=>?_⟩
 ·unfold lg
  rw [List.pairwise_filterMap]
  refine List.Pairwise.imp_of_mem (fun {i j} hi hj ra=>?_) ha.sorted
  intro x hx y hy
  obtain ⟨p,q,h1,h2,h3⟩:=ra
  simp only [List.getElem?_map,Option.map_eq_some_iff] at h1 h2
  obtain ⟨x',h4,rfl⟩:=h1
  obtain ⟨y',h5,rfl⟩:=h2
  simp_all
 ·simp only [lg,List.mem_filterMap]
  constructor
  ·rintro ⟨i,hi,hx⟩
   exact ((vq h hx).1 ((ha.mem i).1 hi).2).1
  ·intro he
   obtain ⟨i,h1,h2⟩:=tG he.1
   exact ⟨(i:Int),(ha.mem _).2 ⟨by omega,by simpa using (vq h h1).2 ⟨he,h2⟩⟩,by simpa using h1⟩
def Fp {E:Type} [DecidableEq E] (l:List E):List Int:=l.map fun x=>(l.findIdx (fun y=>decide (y=x)):Int)
theorem Hl {E:Type} [DecidableEq E] (st:E→bJ) (l:List E):u4 st l (Fp l):=by
 refine ⟨by simp [Fp],fun i x c hx hc=>?_⟩
 have ZX:c=(l.findIdx (fun y=>decide (y=x)):Int):=by simp [Fp,hx] at hc; exact hc.symm
 constructor
 ·intro h y hy hs
  obtain ⟨k,hk⟩:=List.getElem?_of_mem hy
  have:=h k y (l.findIdx (fun z=>decide (z=y)):Int) hk (by simp [Fp,hk]) hs
  rw [ZX] at this
  have hf:l.findIdx (fun z=>decide (z=y))=l.findIdx (fun z=>decide (z=x)):=by omega
  have hlt:l.findIdx (fun z=>decide (z=x))<l.length:=List.findIdx_lt_length_of_exists ⟨x,List.mem_of_getElem? hx,by simp⟩
  have e1:=List.findIdx_getElem (xs:=l) (p:=fun z=>decide (z=x)) (w:=hlt)
  have abG:l.findIdx (fun z=>decide (z=y))<l.length:=by rw [hf]; exact hlt
  have e2:=List.findIdx_getElem (xs:=l) (p:=fun z=>decide (z=y)) (w:=abG)
  simp only [decide_eq_true_eq] at e1 e2
  rw [← e1,← e2]
  simp only [hf]
 ·intro h k y d hy hd hs
  have:=h y (List.mem_of_getElem? hy) hs
  subst this
  simp [Fp,hy] at hd
  rw [ZX,← hd]
def vp {E:Type} [DecidableEq E] (st:E→bJ) (l:List E):List Int:=l.map fun x=>if l.find? (fun y=>decide (st y=st x))=some x then 0 else 1
theorem Hk {E:Type} [DecidableEq E] (st:E→bJ) (l:List E):u4 st l (vp st l):=by
 refine ⟨by simp [vp],fun i x c hx hc=>?_⟩
 have ZX:c=if l.find? (fun y=>decide (st y=st x))=some x then 0 else 1:=by simp [vp,hx] at hc; exact hc.symm
 obtain ⟨f,hf⟩:∃ f,l.find? (fun y=>decide (st y=st x))=some f:=by
  cases h:l.find? (fun y=>decide (st y=st x)) with
  | none=>rw [List.find?_eq_none] at h; exact absurd (h x (List.mem_of_getElem? hx)) (by simp)
  | some f=>exact ⟨f,rfl⟩
 have hfs:st f=st x:=by simpa using List.find?_some hf
 have Qw:f ∈ l:=List.mem_of_find?_eq_some hf
 have hfc:∀ y,st y=st x→l.find? (fun z=>decide (st z=st y))=some f:=fun y hy=>by rw [hy]; exact hf
 constructor
 ·intro h
  obtain ⟨k,hk⟩:=List.getElem?_of_mem Qw
  have h0:=h k f 0 hk (by simp [vp,hk,hfc f hfs]) hfs
  have oB:∀ y ∈ l,st y=st x→y=f:=fun y hy hs=>by
   obtain ⟨j,hj⟩:=List.getElem?_of_mem hy
   have:=h j y _ hj (by simp only [vp,List.getElem?_map,hj,Option.map_some]; rfl) hs
   rw [← h0,hfc y hs] at this
   by_cases he:f=y
   ·exact he.symm
   ·rw [if_neg (by simpa using he)] at this; omega
  intro y hy hs
  rw [oB y hy hs,oB x (List.mem_of_getElem? hx) rfl]
 ·intro h k y d hy hd hs
  have:=h y (List.mem_of_getElem? hy) hs
  subst this
  simp only [vp,List.getElem?_map,hy,Option.map_some,Option.some.injEq] at hd
  rw [ZX,← hd]
def J1 {E:Type} [DecidableEq E] (st:E→bJ) (l:List E):List E:=lg l (jZ (l.map st) (Fp l))
theorem R9 {E:Type} [DecidableEq E] (st:E→bJ) (l:List E):Bz st l (J1 st l):=HE (Hl st l) (pJ _ _)
theorem K7 {E:Type} [DecidableEq E] {st:E→bJ} {l:List E} {cl:List Int} (h:u4 st l cl):lg l (jZ (l.map st) cl)=J1 st l :=
 (HE h (pJ _ _)).unique (R9 st l)
theorem yH {l:List bJ} {cl:List Int} {i:Int} (h:i ∈ jZ l cl):0≤i∧i.toNat<l.length:=by
 have:=((pJ l cl).mem i).1 h; exact ⟨this.1,mR this.2⟩
theorem Hr {E:Type} [DecidableEq E] {st:E→bJ} {l:List E} {cl:List Int} (h:u4 st l cl):(jZ (l.map st) cl).length=(J1 st l).length:=by
 rw [← K7 h,tg]
 intro i hi; have:=(yH hi).2; simpa using this
theorem II {E:Type} [DecidableEq E] {st:E→bJ} {l:List E} {cl:List Int} (h:u4 st l cl):sP (l.map st) cl=if 300<(J1 st l).length then ([],3) else (jZ (l.map st) cl,0):=by
 have h1:=h.len
 unfold sP
 rw [if_neg (by simpa using h1),Hr h]
theorem Jh {α:Type} {lt:α→α→Bool} (l:List α):(rQ lt l).length=l.length:=iG.length_eq
theorem vm (l:List bJ) (cl:List Int):(jZ l cl).length≤l.length:=by
 unfold jZ
 rw [Jh,List.length_map]
 have:=List.length_filter_le (pL l cl) (List.range l.length)
 simpa using this
theorem K6 {E:Type} [DecidableEq E] (st:E→bJ) (l:List E):(J1 st l).length≤l.length:=by
 rw [← Hr (Hl st l)]
 have:=vm (l.map st) (Fp l)
 simpa using this
def jz {E:Type} [DecidableEq E] (st:E→bJ) (l:List E):List E × Int:=if 300<(J1 st l).length then ([],3) else (J1 st l,0)
theorem xZ {E:Type} [DecidableEq E] {st:E→bJ} {l:List E} (h:l.length≤300):jz st l=(J1 st l,0):=by
 unfold jz; rw [if_neg (by have:=K6 st l; omega)]
end Go.Sh
namespace Go.Sh
open Go.L
def run {α σ R:Type} (g:Nat→α→σ→R ⊕ σ) (e:σ→R):Nat→List α→σ→R
 | _,[],s=>e s
 | i,x :: l,s=>match g i x s with | .inl r=>r | .inr s'=>run g e (i+1) l s'
theorem PN {α σ R:Type} {a:List α} {L:Nat→Int→σ→Option R} (g:Nat→α→σ→R ⊕ σ) (e:σ→R) (I:Nat→σ→Prop) (hb:a.length<1000000)
  (hS:∀ n (i:Nat) x s,a[i]?=some x→I i s→(match g i x s with | .inl r=>L (n+1) (i:Int) s=some r | .inr s'=>L (n+1) (i:Int) s=L n ((i+1:Nat):Int) s'∧I (i+1) s'))
  (hE:∀ n s,I a.length s→L (n+1) (a.length:Int) s=some (e s)) :
  ∀ (l p:List α) (n:Nat) (s:σ),a=p++l→l.length<n→I p.length s→L n (p.length:Int) s=some (run g e p.length l s):=by
 intro l
 induction l with
 | nil=>intro p n s hp hn hI; cases n with
  | zero=>omega
  | succ n =>
   have:a=p:=by simpa using hp
   subst this
   rw [hE n s hI]; rfl
 | cons x l ih=>intro p n s hp hn hI; cases n with
  | zero=>omega
  | succ n =>
   have hx:a[p.length]?=some x:=by rw [hp]; simp
   have:=hS n p.length x s hx hI
   unfold run
   cases hg:g p.length x s with
   | inl r=>rw [hg] at this; exact this
   | inr s' =>
    rw [hg] at this
    obtain ⟨h1,h2⟩:=this
    rw [h1]
    have e1:p.length+1=(p++[x]).length:=by simp
    rw [e1] at h2 ⊢
    exact ih (p++[x]) n s' (by rw [hp]; simp) (by simpa using hn) h2
theorem Ny {α σ R:Type} {a:List α} {L:Nat→Int→σ→Option R} (g:Nat→α→σ→R ⊕ σ) (e:σ→R) (I:Nat→σ→Prop) {s0:σ} {F:Nat} (hb:a.length<1000000)
  (hS:∀ n (i:Nat) x s,a[i]?=some x→I i s→(match g i x s with | .inl r=>L (n+1) (i:Int) s=some r | .inr s'=>L (n+1) (i:Int) s=L n ((i+1:Nat):Int) s'∧I (i+1) s'))
  (hE:∀ n s,I a.length s→L (n+1) (a.length:Int) s=some (e s)) (hF:a.length<F) (h0:I 0 s0):L F 0 s0=some (run g e 0 a s0) :=
 PN g e I hb hS hE a [] F s0 rfl hF h0
def scan {α R:Type} (g:Nat→α→Option R) (e:R):Nat→List α→R
 | _,[]=>e
 | i,x :: l=>match g i x with | some r=>r | .none=>scan g e (i+1) l
theorem gF {α R:Type} {a:List α} {L:Nat→Int→Option R} (g:Nat→α→Option R) (e:R) {F:Nat} (hb:a.length<1000000)
  (hS:∀ n (i:Nat) x,a[i]?=some x→i<1000000→L (n+1) (i:Int)=match g i x with | some r=>some r | .none=>L n ((i+1:Nat):Int))
  (hE:∀ n,L (n+1) (a.length:Int)=some e) (hF:a.length<F):L F 0=some (scan g e 0 a):=by
 have key:∀ (l p:List α) (n:Nat),a=p++l→l.length<n→L n (p.length:Int)=some (scan g e p.length l):=by
  intro l
  induction l with
  | nil=>intro p n hp hn; cases n with
   | zero=>omega
   | succ n =>
    have:a=p:=by simpa using hp
    subst this
    rw [hE n]; rfl
  | cons x l ih=>intro p n hp hn; cases n with
   | zero=>omega
   | succ n =>
    have hx:a[p.length]?=some x:=by rw [hp]; simp
    have hl:p.length<1000000:=by rw [hp] at hb; simp at hb; omega
    rw [hS n p.length x hx hl]
    unfold scan
    cases hg:g p.length x with
    | some r=>rfl
    | none =>
     simp only
     have e1:p.length+1=(p++[x]).length:=by simp
     rw [e1]
     exact ih (p++[x]) n (by rw [hp]; simp) (by simpa using hn)
 exact key a [] F rfl hF
theorem Ew {α:Type} (f:α→Bool):∀ (l:List α) (i:Nat),scan (fun _ x=>if f x=true then .none else some false) true i l=l.all f
 | [],i=>rfl
 | x :: l,i=>by
  unfold scan
  rw [List.all_cons]
  cases hf:f x with
  | true=>simp [Ew f l]
  | false=>simp
theorem pH {α:Type} {a:List α} {L:Nat→Int→Option Bool} (f:α→Bool) {F:Nat} (hb:a.length<1000000)
  (hS:∀ n (i:Nat) x,a[i]?=some x→i<1000000→L (n+1) (i:Int)=if f x=true then L n ((i+1:Nat):Int) else some false)
  (hE:∀ n,L (n+1) (a.length:Int)=some true) (hF:a.length<F):L F 0=some (a.all f):=by
 rw [gF (fun _ x=>if f x=true then .none else some false) true hb (fun n i x hx hi=>?_) hE hF,Ew]
 rw [hS n i x hx hi]
 cases f x <;> rfl
theorem Il {α:Type} [DecidableEq α]:∀ (l m p:List α),l.length=m.length→scan (fun i x=>if (p++m)[i]?=some x then .none else some false) true p.length l=decide (l=m)
 | [],[],p,_=>rfl
 | x :: l,y :: m,p,h=>by
  unfold scan
  have e:(p++y :: m)[p.length]?=some y:=by simp
  rw [e]
  by_cases yQ:x=y
  ·subst yQ
   simp only [if_true,List.cons.injEq,true_and]
   have:=Il l m (p++[x]) (by simpa using h)
   simpa using this
  ·have:¬ (some y=some x):=fun hh=>yQ (Option.some.inj hh).symm
   simp [this,yQ]
theorem K4 {α:Type} [DecidableEq α] {a b:List α} {L:Nat→Int→Option Bool} {F:Nat} (hl:a.length=b.length) (hb:a.length<1000000)
  (hS:∀ n (i:Nat) x y,a[i]?=some x→b[i]?=some y→i<1000000→L (n+1) (i:Int)=if x=y then L n ((i+1:Nat):Int) else some false)
  (hE:∀ n,L (n+1) (a.length:Int)=some true) (hF:a.length<F):L F 0=some (decide (a=b)):=by
 rw [gF (fun i x=>if b[i]?=some x then .none else some false) true hb (fun n i x hx hi=>?_) hE hF]
 ·exact congrArg some (Il a b [] hl)
 ·have fQ:i<b.length:=by rw [← hl]; exact (List.getElem?_eq_some_iff.1 hx).1
  rw [hS n i x b[i] hx (by simp [fQ]) hi]
  by_cases h:x=b[i]
  ·simp [h,fQ]
  ·have:¬ (b[i]?=some x):=fun hh=>by rw [List.getElem?_eq_getElem fQ] at hh; exact h (Option.some.inj hh).symm
   simp [h,this]
theorem dM {α:Type} {a:List α} {i:Nat} {x:α} (h:a[i]?=some x):decide ((i:Int)<(a.length:Int))=true:=by
 have:=(List.getElem?_eq_some_iff.1 h).1; simp; omega
theorem dL (n:Nat):decide ((n:Int)<(n:Int))=false:=by simp
theorem cr {α:Type} {a:List α} {i:Nat} {x:α} (h:a[i]?=some x):idx a (i:Int)=some x:=by rw [pS,h]
theorem dt {i:Nat} (h:i<1000000):i64 ((i:Int)+1)=((i+1:Nat):Int):=by rw [bR (by omega) (by omega)]; rfl
theorem K8 {α β R:Type} {a:List α} {L:Nat→Int→List β→Option R} (f:α→β) (e:List β→R) {z:β} {F:Nat}
  (hS:∀ n (i:Nat) x (l l':List β),a[i]?=some x→l.length=i→L (n+1) (i:Int) (l++z :: l')=L n ((i+1:Nat):Int) (l++f x :: l'))
  (hE:∀ n l,L (n+1) (a.length:Int) l=some (e l)) (hF:a.length<F):L F 0 (List.replicate a.length z)=some (e (a.map f)):=by
 have key:∀ (s p:List α) (n:Nat),a=p++s→s.length<n→L n (p.length:Int) (p.map f++List.replicate s.length z)=some (e (a.map f)):=by
  intro s
  induction s with
  | nil=>intro p n hp hn; cases n with
   | zero=>omega
   | succ n =>
    have:a=p:=by simpa using hp
    subst this
    rw [hE n]; simp
  | cons x s ih=>intro p n hp hn; cases n with
   | zero=>omega
   | succ n =>
    have hx:a[p.length]?=some x:=by rw [hp]; simp
    rw [List.length_cons,List.replicate_succ,hS n p.length x (p.map f) (List.replicate s.length z) hx (by simp)]
    have e1:p.map f++f x :: List.replicate s.length z=(p++[x]).map f++List.replicate s.length z:=by simp
    have e2:p.length+1=(p++[x]).length:=by simp
    rw [e1,e2]
    exact ih (p++[x]) n (by rw [hp]; simp) (by simpa using hn)
 exact key a [] F rfl hF
theorem tq {α:Type} {f:Nat→α→Bool} {e:Bool}:∀ (l:List α) (i:Nat),(scan (fun i x=>if f i x=true then .none else some false) e i l=true ↔ e=true∧∀ (j:Nat) x,l[j]?=some x→f (i+j) x=true)
 | [],i=>by simp [scan]
 | x :: l,i=>by
  unfold scan
  cases hf:f i x with
  | false =>
   simp only [Bool.false_eq_true,if_false]
   constructor
   ·intro h; cases h
   ·rintro ⟨_,h⟩; have:=h 0 x rfl; rw [Nat.add_zero,hf] at this; cases this
  | true =>
   simp only [if_true]
   rw [tq l (i+1)]
   constructor
   ·rintro ⟨h1,h2⟩
    refine ⟨h1,fun j y hy=>?_⟩
    cases j with
    | zero=>simp at hy; subst hy; exact hf
    | succ j=>have:=h2 j y (by simpa using hy); rw [← this]; congr 1; omega
   ·rintro ⟨h1,h2⟩
    refine ⟨h1,fun j y hy=>?_⟩
    have:=h2 (j+1) y (by simpa using hy)
    rw [← this]; congr 1; omega
theorem bEq {a b:Bool} (h:a=true ↔ b=true):a=b:=by cases a <;> cases b <;> simp_all
end Go.Sh
namespace Go.Sh
open Go.L
def Qg (F:Nat) (x:ah):Prop:=(x.aH.length<1000000∧x.aH.length<F)∧(x.aO.length<1000000∧x.aO.length<F)
def BC (F:Nat) (l:List bu):Prop:=∀ e ∈ l,Qg F e.Item
theorem OK {F:Nat} {a b:List Int} (hb:a.length<1000000) (hF:a.length<F):Dd F a b=some (decide (a=b)):=by
 unfold Dd
 by_cases h:a.length=b.length
 ·have h1:((a.length:Int) != (b.length:Int))=false:=by simp [h]
  simp only [h1,Bool.false_eq_true,if_false]
  refine K4 h hb (fun n i x y hx hy hi=>?_) (fun n=>?_) hF
  ·simp only [JB,No,dM hx,if_true,cr hx,cr hy,Option.bind_some,dt hi]
   by_cases yQ:x=y <;> simp [yQ]
  ·simp only [JB,No,dL,Bool.false_eq_true,if_false]
 ·have h1:((a.length:Int) != (b.length:Int))=true:=by simp; omega
  have h2:a ≠ b:=fun qo=>h (by rw [qo])
  simp [h1,h2]
theorem K5 {F:Nat} {a b:List aq} (hb:a.length<1000000) (hF:a.length<F):CZ F a b=some (decide (a=b)):=by
 unfold CZ
 by_cases h:a.length=b.length
 ·have h1:((a.length:Int) != (b.length:Int))=false:=by simp [h]
  simp only [h1,Bool.false_eq_true,if_false]
  refine K4 h hb (fun n i x y hx hy hi=>?_) (fun n=>?_) hF
  ·simp only [JA,Nj,dM hx,if_true,cr hx,cr hy,Option.bind_some,dt hi]
   by_cases yQ:x=y <;> simp [yQ]
  ·simp only [JA,Nj,dL,Bool.false_eq_true,if_false]
 ·have h1:((a.length:Int) != (b.length:Int))=true:=by simp; omega
  have h2:a ≠ b:=fun qo=>h (by rw [qo])
  simp [h1,h2]
theorem GY {F:Nat} {a b:ah} (h:Qg F a):D9 F a b=some (decide (a=b)):=by
 unfold D9
 rw [K5 h.1.1 h.1.2,OK h.2.1 h.2.2]
 obtain ⟨i,v,s,p,e⟩:=a
 obtain ⟨i',v',s',p',e'⟩:=b
 simp only [ah.mk.injEq,decide_eq_true_eq,beq_iff_eq,Option.bind_some]
 by_cases h1:i=i'
 ·by_cases h2:v=v'
  ·by_cases h3:s=s'
   ·by_cases h4:p=p'
    ·simp [h1,h2,h3,h4]
    ·simp [h4]
   ·simp [h3]
  ·simp [h2]
 ·simp [h1]
theorem UD {F:Nat} {a b:bu} (h:Qg F a.Item):kN F a b=some (decide (a=b)):=by
 unfold kN
 rw [GY h]
 obtain ⟨s,k,g,r,f⟩:=a
 obtain ⟨s',k',g',r',f'⟩:=b
 simp only [bu.mk.injEq,decide_eq_true_eq,beq_iff_eq,Option.bind_some]
 by_cases h1:s=s'
 ·by_cases h2:k=k'
  ·by_cases h3:r=r'
   ·by_cases h4:f=f'
    ·simp [h1,h2,h3,h4]
    ·simp [h4]
   ·simp [h3]
  ·simp [h2]
 ·simp [h1]
theorem lH {F:Nat} {x:ah} (h:Qg F x):tQ x=some x:=by
 unfold tQ
 rw [dp (by simp; have:=h.1.1; omega),Option.bind_some,dp (by simp; have:=h.2.1; omega)]
 rfl
theorem pW {α β:Type} [DecidableEq α] (k k':α) (v:β):∀ m:List (α × β),eR (et m k v) k'=if k'=k then some v else eR m k'
  | [] => by simp only [et, eR]; by_cases h : k = k'
             · simp [h]
             · simp [h,Ne.symm h]
  | (a,b) :: r=>by
    simp only [et]
    by_cases h:a=k
    · subst h
      simp only [if_true,eR]
      by_cases h2:a=k'
      · simp [h2]
      · simp [h2,Ne.symm h2]
    · simp only [h,if_false,eR,pW k k' v r]
      by_cases h2:a=k'
      · subst h2; simp [h]
      · simp [h2]
theorem Ue {i:Nat} (h:i<1000000000):i64 ((i:Int)+1)=((i+1:Nat):Int):=by rw [bR (by omega) (by omega)]; rfl
theorem rN {α:Type} {p:List α} {x:α} {s:List α} {n:Nat} (h:p.length=n):idx (p++x :: s) (n:Int)=some x:=by rw [← h]; exact pj p x s
theorem uW {α:Type} {p:List α} {x y:α} {s:List α} {n:Nat} (h:p.length=n):(p++x :: s).set (n:Int).toNat y=p++y :: s:=by
 simp [← h]
theorem split_loop {F0:List bu} {p1:bu→Option bJ} {p2:bu→bu→Option Bool} (hb:F0.length<1000000) (h1:∀ a ∈ F0,p1 a=some a.ai) (h2:∀ a ∈ F0,∀ b ∈ F0,p2 a b=some (decide (a=b))) (z:bJ) :
  ∀ (s p:List bu) (n:Nat) (m:List (bJ × Int)),F0=p++s→s.length<n→(∀ x,eR m x=(p.findIdx? fun y=>decide (y.ai=x)).map Int.ofNat) →
   Gj F0 p1 p2 n (p.length:Int) (p.map (·.ai)++List.replicate s.length z) (p.map (fun x=>if F0.find? (fun y=>decide (y.ai=x.ai))=some x then 0 else 1)++List.replicate s.length 0) m
    = some (F0.map (·.ai),vp (·.ai) F0):=by
 intro s
 induction s with
 | nil =>
  intro p n m hp hn hm
  cases n with
  | zero=>omega
  | succ n =>
   have:F0=p:=by simpa using hp
   subst this
   simp only [Gj,Ni,Int.lt_irrefl,decide_false,Bool.false_eq_true,if_false,List.length_nil,List.replicate_zero,List.append_nil,vp]
 | cons x s ih =>
  intro p n m hp hn hm
  cases n with
  | zero=>omega
  | succ n =>
   have hx:x ∈ F0:=by rw [hp]; simp
   have hlen:p.length<1000000:=by rw [hp] at hb; simp at hb; omega
   have d1:decide ((p.length:Int)<(F0.length:Int))=true:=by rw [hp]; exact U3 p x s
   have i1:idx F0 (p.length:Int)=some x:=by rw [hp]; exact pj p x s
   simp only [Gj,Ni,d1,if_true,i1,Option.bind_some,h1 x hx,List.length_cons,List.replicate_succ]
   rw [rN (by simp),uW (by simp),rN (by simp)]
   simp only [Option.bind_some,Ue (show p.length<1000000000 by omega),hm]
   have Lx:((p.length+1:Nat):Int)=((p++[x]).length:Int):=by simp
   have oH:p.map (·.ai)++x.ai :: List.replicate s.length z=(p++[x]).map (·.ai)++List.replicate s.length z:=by simp
   have hF:F0=(p++[x])++s:=by rw [hp]; simp
   have hfx:∀ q:bu→Bool,F0.find? q=((p.find? q).or (if q x then some x else s.find? q)):=fun q=>by
    rw [hp,List.find?_append,List.find?_cons]
    cases q x <;> simp
   cases hj:p.findIdx? (fun y=>decide (y.ai=x.ai)) with
   | none =>
    simp only [Option.map_none,Option.isSome_none,Bool.not_false,if_true]
    have hpn:p.find? (fun y=>decide (y.ai=x.ai))=.none:=by
     rw [List.findIdx?_eq_none_iff] at hj
     rw [List.find?_eq_none]; intro y hy; simpa using hj y hy
    have hc:F0.find? (fun y=>decide (y.ai=x.ai))=some x:=by rw [hfx,hpn]; simp
    have hcl:p.map (fun x=>if F0.find? (fun y=>decide (y.ai=x.ai))=some x then (0:Int) else 1)++0 :: List.replicate s.length 0=(p++[x]).map (fun x=>if F0.find? (fun y=>decide (y.ai=x.ai))=some x then (0:Int) else 1)++List.replicate s.length 0:=by
     simp [hc]
    rw [hcl,oH,Lx]
    refine ih (p++[x]) n _ hF (by simpa using hn) fun y=>?_
    rw [pW,hm,List.findIdx?_append]
    by_cases Of:y=x.ai
    ·subst Of; simp [hj,List.findIdx?_cons]
    ·rw [if_neg Of]
     cases p.findIdx? (fun z=>decide (z.ai=y)) with
     | none=>simp [List.findIdx?_cons,Ne.symm Of]
     | some j=>simp
   | some j =>
    rw [List.findIdx?_eq_some_iff_getElem] at hj
    obtain ⟨nz,Vd,Lt⟩:=hj
    simp only [decide_eq_true_eq] at Vd
    have hpf:p.find? (fun y=>decide (y.ai=x.ai))=some p[j]:=by
     rw [List.find?_eq_some_iff_getElem]
     exact ⟨by simpa using Vd,j,nz,rfl,fun k hk=>by simpa using Lt k hk⟩
    have hfj:idx F0 (j:Int)=some p[j]:=by
     rw [pS,hp,List.getElem?_append_left nz]; simp [nz]
    have hpj:p[j] ∈ F0:=by rw [hp]; simp
    have hc:F0.find? (fun y=>decide (y.ai=x.ai))=some p[j]:=by rw [hfx,hpf]; simp
    simp only [Option.map_some,Option.isSome_some,Bool.not_true,Bool.false_eq_true,if_false,Option.getD_some]
    have kh:∀ y,eR m y=((p++[x]).findIdx? fun z=>decide (z.ai=y)).map Int.ofNat:=fun y=>by
     rw [hm,List.findIdx?_append]
     cases hq:p.findIdx? (fun z=>decide (z.ai=y)) with
     | some j=>simp
     | none =>
      have:¬ x.ai=y:=fun yQ=>by
       subst yQ
       rw [List.findIdx?_eq_none_iff] at hq
       have:=hq p[j] (by simp)
       simp [Vd] at this
      simp [List.findIdx?_cons,this]
    show (idx F0 ((j:Nat):Int)).bind _=_
    rw [hfj]
    simp only [Option.bind_some,h2 _ hpj _ hx]
    by_cases he:p[j]=x
    ·have hcl:p.map (fun x=>if F0.find? (fun y=>decide (y.ai=x.ai))=some x then (0:Int) else 1)++0 :: List.replicate s.length 0=(p++[x]).map (fun x=>if F0.find? (fun y=>decide (y.ai=x.ai))=some x then (0:Int) else 1)++List.replicate s.length 0:=by
      simp [hc,he]
     simp only [he,decide_true,Bool.not_true,Bool.false_eq_true,if_false]
     rw [hcl,oH,Lx]
     exact ih (p++[x]) n _ hF (by simpa using hn) kh
    ·have hcl:p.map (fun x=>if F0.find? (fun y=>decide (y.ai=x.ai))=some x then (0:Int) else 1)++1 :: List.replicate s.length 0=(p++[x]).map (fun x=>if F0.find? (fun y=>decide (y.ai=x.ai))=some x then (0:Int) else 1)++List.replicate s.length 0:=by
      simp [hc,he]
     simp only [he,decide_false,Bool.not_false,if_true]
     rw [rN (by simp),uW (by simp)]
     simp only [Option.bind_some]
     rw [hcl,oH,Lx]
     exact ih (p++[x]) n _ hF (by simpa using hn) kh
theorem PT {F:Nat} {l:List bu} {p1:bu→Option bJ} {p2:bu→bu→Option Bool} (hb:l.length<1000000) (hF:l.length<F) (h1:∀ a ∈ l,p1 a=some a.ai) (h2:∀ a ∈ l,∀ b ∈ l,p2 a b=some (decide (a=b))) :
  CR F l p1 p2=some (l.map (·.ai),vp (·.ai) l):=by
 unfold CR
 rw [k7 (by omega),Option.bind_some,k7 (by omega),Option.bind_some]
 exact split_loop hb h1 h2 _ l [] F [] rfl hF fun x=>by simp [eR]
theorem ru {F:Nat} (J2:10≤F) {l:List bu} {p1:bu→Option bJ} {p2:bu→bu→Option Bool} (hb:l.length<1000000) (hF:l.length<F) (h1:∀ a ∈ l,p1 a=some a.ai) (h2:∀ a ∈ l,∀ b ∈ l,p2 a b=some (decide (a=b))) :
  Nl F l p1 p2=some (sP (l.map (·.ai)) (vp (·.ai) l)):=by
 unfold Nl
 rw [PT hb hF h1 h2]
 simp only [Option.bind_some]
 rw [BJ J2 (by simpa using hb) (by simpa using hF)]
 rfl
theorem IU {l:List bu} {a:List Int} {c:Int} {F:Nat} (hc:BC F l) (ha:∀ i ∈ a,0≤i∧i.toNat<l.length) (hb:a.length<1000000) (z:bu):∀ (s p:List Int) (n:Nat),a=p++s→s.length<n →
  wE l (a,c) n (p.length:Int) (lg l p++List.replicate s.length z)=some (lg l a,0):=by
 intro s
 induction s with
 | nil =>
  intro p n hp hn
  cases n with
  | zero=>omega
  | succ n =>
   have:a=p:=by simpa using hp
   subst this
   simp only [wE,Dg,Int.lt_irrefl,decide_false,Bool.false_eq_true,if_false,List.length_nil,List.replicate_zero,List.append_nil]
 | cons x s ih =>
  intro p n hp hn
  cases n with
  | zero=>omega
  | succ n =>
   have hx:=ha x (by rw [hp]; simp)
   have yN:(lg l p).length=p.length:=tg fun i hi=>(ha i (by rw [hp]; simp [hi])).2
   have hlen:p.length<1000000:=by rw [hp] at hb; simp at hb; omega
   have d1:decide ((p.length:Int)<(a.length:Int))=true:=by rw [hp]; exact U3 p x s
   have i1:idx a (p.length:Int)=some x:=by rw [hp]; exact pj p x s
   have i2:idx l x=some l[x.toNat]:=by rw [k6]; exact ⟨hx.1,by simp [hx.2]⟩
   simp only [wE,Dg,d1,if_true,i1,i2,Option.bind_some,List.length_cons,List.replicate_succ]
   have hcl:=hc l[x.toNat] (List.getElem_mem hx.2)
   rw [rN yN,Option.bind_some,lH hcl,Option.bind_some,uW yN,rN yN,Option.bind_some,uW yN]
   simp only [Ue (show p.length<1000000000 by omega)]
   have e1:lg l p++l[x.toNat] :: List.replicate s.length z=lg l (p++[x])++List.replicate s.length z:=by simp [lg,hx.2]
   have e2:((p.length+1:Nat):Int)=((p++[x]).length:Int):=by simp
   rw [e1,e2]
   exact ih (p++[x]) n (by simp [hp]) (by simpa using hn)
theorem Ai {F:Nat} (J2:10≤F) {l:List bu} (hc:BC F l) (hb:l.length<1000000) (hF:l.length<F):D2 F l=some (jz (·.ai) l):=by
 unfold D2
 rw [ru (p1:=fun a0=>H6 a0) (p2:=fun a0 a1=>kN F a0 a1) J2 hb hF (fun a _=>rfl) (fun a ha b _=>UD (hc a ha))]
 rw [II (Hk _ _)]
 simp only [Option.bind_some,jz]
 by_cases h:300<(J1 (·.ai) l).length
 ·simp [h]
 ·have hlen:=vm (l.map (·.ai)) (vp (·.ai) l)
  rw [List.length_map] at hlen
  simp only [h,if_false,bne_self_eq_false,Bool.false_eq_true]
  rw [k7 (by omega)]
  simp only [Option.bind_some]
  rw [← K7 (Hk (·.ai) l)]
  refine IU hc (fun i hi=>?_) (by omega) _ _ [] F rfl (Nat.lt_of_le_of_lt hlen hF)
  have:=yH hi
  exact ⟨this.1,by simpa using this.2⟩
end Go.Sh
namespace Go.Sh
open Go.L
theorem PO (a b:Bool):(if a=true then some true else some b)=some (a || b):=by cases a <;> rfl
theorem R0 (a b:Int):(a == b)=decide (a=b):=by rw [Bool.eq_iff_iff]; simp
def PB (s:ByteArray):Bool:=s.data.toList.all fun b=>!(decide ((b.toNat:Int)<32) || decide ((b.toNat:Int) > 126))
theorem Zk {s:ByteArray} {i:Nat} {b:UInt8} (h:s.data.toList[i]?=some b):JM s (i:Int)=some (b.toNat:Int):=by
 unfold JM
 simp only [show (0:Int)≤(i:Int) by omega,if_true,Int.toNat_natCast,h,Option.map_some]
theorem CG {F:Nat} {s:ByteArray} (hb:s.size<1000000) (hF:s.size<F):D7 F s=some (PB s):=by
 unfold D7 PB
 have fE:(s.size:Int)=(s.data.toList.length:Int):=by
  show ((s.data.size:Nat):Int)=_
  rw [Array.length_toList]
 have hl:s.data.toList.length=s.size:=Array.length_toList
 refine pH (L:=wM s) (fun b:UInt8=>!(decide ((b.toNat:Int)<32) || decide ((b.toNat:Int) > 126))) (by omega) (fun n i x hx hi=>?_) (fun n=>?_) (by omega)
 ·simp only [wM,Dn,fE,dM hx,if_true,Zk hx,Option.bind_some,dt hi,PO]
  cases (decide ((x.toNat:Int)<32) || decide ((x.toNat:Int) > 126)) <;> simp
 ·simp only [wM,Dn,fE,dL,Bool.false_eq_true,if_false]
def F8 (p:aq):Bool:=!(decide (p.Max<1) || (decide (p.Max > 40) || (decide (p.fx<0) || (decide (p.fx ≥ 16) || (decide (p.cG<0) || decide (p.cG ≥ 6)))))) &&
 (if p.Kind=1 then decide (p.Options=0) && decide (p.Key=0) else decide (p.Kind=2) && (decide (p.Options ≥ 2) && (decide (p.Options≤5) && (decide (p.Key ≥ 0) && decide (p.Key<p.Options)))))
theorem uf (p:aq):zu p=some (F8 p):=by
 unfold zu F8
 cases (decide (p.Max<1) || (decide (p.Max > 40) || (decide (p.fx<0) || (decide (p.fx ≥ 16) || (decide (p.cG<0) || decide (p.cG ≥ 6)))))) with
 | true=>simp
 | false =>
  by_cases h1:p.Kind=1
  ·simp only [h1,Bool.false_eq_true,if_false,if_true,beq_self_eq_true,Bool.not_false,Bool.true_and,R0]
  ·by_cases h2:p.Kind=2
   ·simp [h1,h2]
   ·simp [h1,h2]
def Qk (id:Int) (l:List Int) (i:Nat) (x:Int):Bool:=!(decide (x ≥ 0) && decide (x≤9999)) || (decide (x=id) || (decide (0<i) && decide (l.getD (i - 1) 0 ≥ x)))
def MQ (id:Int) (l:List Int):Bool:=scan (fun i x=>if Qk id l i x=true then some false else .none) true 0 l
theorem X3 {l:List Int} {i:Nat} {x:Int} (hi:i<1000000) (hx:l[i]?=some x) (h0:0<i):idx l (i64 ((i:Int) - 1))=some (l.getD (i - 1) 0):=by
 have h1:=(List.getElem?_eq_some_iff.1 hx).1
 rw [bR (by omega) (by omega),show (i:Int) - 1=((i - 1:Nat):Int) by omega,pS]
 simp [show i - 1<l.length by omega]
theorem IS {F:Nat} {id:Int} {l:List Int} (hb:l.length<1000000) (hF:l.length<F):DJ F id l=some (MQ id l):=by
 unfold DJ MQ
 refine gF _ _ hb (fun n i x hx hi=>?_) (fun n=>?_) hF
 ·simp only [JI,CS,dM hx,if_true,cr hx,Option.bind_some,zE,dt hi]
  unfold Qk
  by_cases h0:0<i
  ·have d:decide ((i:Int) > 0)=true:=by simp; exact h0
   simp only [d,if_true,X3 hi hx h0,Option.bind_some,PO,h0,decide_true,Bool.true_and,R0]
   cases (!(decide (x ≥ 0) && decide (x≤9999)) || (decide (x=id) || decide (l.getD (i - 1) 0 ≥ x))) <;> simp
  ·have d:decide ((i:Int) > 0)=false:=by simp; omega
   simp only [d,Bool.false_eq_true,if_false,Option.bind_some,PO,h0,decide_false,Bool.false_and,R0]
   cases (!(decide (x ≥ 0) && decide (x≤9999)) || (decide (x=id) || false)) <;> simp
 ·simp only [JI,CS,dL,Bool.false_eq_true,if_false]
def iB (x:ah):Int :=
 if (!(decide (x.ID ≥ 0) && decide (x.ID≤9999)) || (decide (x.Version<1) || decide (x.Version > 8)))=true then 2
 else if (decide ((x.cO.size:Int) > 40) || (decide ((x.aH.length:Int) > 6) || decide ((x.aO.length:Int) > 8)))=true then 3
 else if (decide (x.cO=ByteArray.mk #[]) || !(PB x.cO))=true then 7
 else if x.aH=[] then 10
 else if x.aH.all F8=true then (if MQ x.ID x.aO=true then 0 else 9) else 1
theorem zK {α R:Type} (f:α→Bool) (c e:R):∀ (l:List α) (i:Nat),scan (fun _ x=>if f x=true then .none else some c) e i l=if l.all f=true then e else c
 | [],i=>rfl
 | x :: l,i=>by
  unfold scan
  rw [List.all_cons]
  cases hf:f x with
  | true=>simp [zK f c e l]
  | false=>simp
theorem lG {F:Nat} {x:ah} (hF:50<F):ou F x=some (iB x):=by
 unfold ou iB zE
 simp only [Option.bind_some,PO]
 cases h1:(!(decide (x.ID ≥ 0) && decide (x.ID≤9999)) || (decide (x.Version<1) || decide (x.Version > 8))) with
 | true=>simp
 | false =>
  simp only [Bool.false_eq_true,if_false]
  cases h2:(decide ((x.cO.size:Int) > 40) || (decide ((x.aH.length:Int) > 6) || decide ((x.aO.length:Int) > 8))) with
  | true=>simp
  | false =>
   simp only [Bool.or_eq_false_iff,decide_eq_false_iff_not] at h2
   simp only [Bool.false_eq_true,if_false]
   rw [CG (by omega) (by omega)]
   simp only [Option.bind_some,PO]
   cases (decide (x.cO=ByteArray.mk #[]) || !(PB x.cO)) with
   | true=>simp
   | false =>
    simp only [Bool.false_eq_true,if_false]
    by_cases h3:x.aH=[]
    ·simp [h3]
    ·have h4:((x.aH.length:Int) == 0)=false:=by
      rw [beq_eq_false_iff_ne]; intro h; exact h3 (List.eq_nil_of_length_eq_zero (by omega))
     simp only [h3,h4,Bool.false_eq_true,if_false]
     rw [← zK F8 (1:Int) (if MQ x.ID x.aO=true then 0 else 9) x.aH 0]
     refine gF _ _ (by omega) (fun n i y hy hi=>?_) (fun n=>?_) (by omega)
     ·simp only [zD,D0,dM hy,if_true,cr hy,Option.bind_some,dt hi,uf]
      cases F8 y <;> simp
     ·simp only [zD,D0,dL,Bool.false_eq_true,if_false]
      rw [IS (by omega) (by omega)]
      cases MQ x.ID x.aO <;> simp
theorem sR {F:Nat} {x:ah} (hF:50<F) (h:iB x=0):Qg F x∧0≤x.ID∧x.ID≤9999∧1≤x.Version∧x.Version≤8:=by
 unfold iB at h
 by_cases h1:(!(decide (x.ID ≥ 0) && decide (x.ID≤9999)) || (decide (x.Version<1) || decide (x.Version > 8)))=true
 ·rw [if_pos h1] at h; simp at h
 ·rw [if_neg h1] at h
  by_cases h2:(decide ((x.cO.size:Int) > 40) || (decide ((x.aH.length:Int) > 6) || decide ((x.aO.length:Int) > 8)))=true
  ·rw [if_pos h2] at h; simp at h
  ·simp only [Bool.not_eq_true,Bool.or_eq_false_iff,decide_eq_false_iff_not,Bool.not_eq_false',Bool.and_eq_true,decide_eq_true_eq] at h1 h2
   refine ⟨⟨⟨?_,?_⟩,?_,?_⟩,?_,?_,?_,?_⟩ <;> omega
def iJ (l:List a8):Prop:=l.Pairwise fun a b=>a.ID<b.ID
def eJ (l:List a8) (n:Int):Option Nat:=l.findIdx? fun b=>b.ID == n
def o5 (l:List a8) (n:Int):Nat:=(l.takeWhile fun b=>decide (b.ID<n)).length
theorem pM (l:List a8) (n:Int):o5 l n≤l.length:=(List.takeWhile_sublist _).length_le
theorem vu {l:List a8} (hs:iJ l) (n:Int):∀ q (hq:q<l.length),q<o5 l n ↔ l[q].ID<n:=by
 induction l with
 | nil=>intro q hq; simp at hq
 | cons x s ih =>
  have FT:=List.pairwise_cons.1 hs
  intro q hq
  unfold o5
  by_cases hx:x.ID<n
  ·rw [List.takeWhile_cons_of_pos (by simpa using hx)]
   cases q with
   | zero=>simp [hx]
   | succ q=>have:=ih FT.2 q (by simpa using hq); unfold o5 at this; simpa using this
  ·rw [List.takeWhile_cons_of_neg (by simpa using hx)]
   cases q with
   | zero=>simp; omega
   | succ q =>
    have rb:q<s.length:=by simpa using hq
    have:=FT.1 s[q] (List.getElem_mem _)
    simp; omega
theorem XS {a b:Nat} (h:a+b<1000000000):i64 (uC .u64 (IntKind.u64.wrap (i64 ((a:Int)+b))) 1)=(((a+b) / 2:Nat):Int):=by
 rw [bR (n:=(a:Int)+b) (by omega) (by omega)]
 have h1:IntKind.u64.wrap ((a:Int)+b)=(a:Int)+b:=by
  unfold IntKind.wrap
  simp only [IntKind.bits,IntKind.signed]
  first | omega | (simp; omega)
 rw [h1]
 have h2:uC .u64 ((a:Int)+b) 1=((a:Int)+b) / 2:=by
  unfold uC
  simp only [IntKind.bits]
  rw [show (2:Int) ^ min (1:Int).toNat 64=2 from rfl]
  rw [Int.fdiv_eq_ediv_of_nonneg _ (by omega)]
 rw [h2,bR (by omega) (by omega)]
 omega
theorem Ah {l:List a8} {x:Int} {p2:a8→Int→Option Int} {f:a8→Int} {k:Nat} (hb:l.length<1000000) (hk:k≤l.length) (hf:∀ y ∈ l,p2 y x=some (f y)) (h:∀ q (hq:q<l.length),q<k ↔ f l[q]<0) :
  ∀ n (a b:Nat),a≤k→k≤b→b≤l.length→b - a<n→Vq l x p2 n a b=some ((k:Int),match l[k]? with | some y=>f y == 0 | .none=>false):=by
 intro n
 induction n with
 | zero=>intro a b _ _ _ h; omega
 | succ n ih =>
  intro a b ha hkb hbl hn
  simp only [Vq,PC]
  by_cases qo:a<b
  ·have d:decide ((a:Int)<(b:Int))=true:=by simp; exact qo
   have hm:(a+b) / 2<l.length:=by omega
   simp only [d,if_true,XS (show a+b<1000000000 by omega),k5 hm,Option.bind_some,hf _ (List.getElem_mem hm)]
   by_cases hlt:f l[(a+b) / 2]<0
   ·have:=(h _ hm).2 hlt
    simp only [hlt,decide_true,if_true,Ue (show (a+b) / 2<1000000000 by omega)]
    exact ih _ _ (by omega) hkb hbl (by omega)
   ·have:¬ (a+b) / 2<k:=fun hc=>hlt ((h _ hm).1 hc)
    simp only [hlt,decide_false,Bool.false_eq_true,if_false]
    exact ih _ _ ha (by omega) (by omega) (by omega)
  ·have d:decide ((a:Int)<(b:Int))=false:=by simp; omega
   have hak:a=k:=by omega
   subst hak
   simp only [d,Bool.false_eq_true,if_false]
   by_cases ya:a<l.length
   ·have d2:decide ((a:Int)<(l.length:Int))=true:=by simp; exact ya
    simp only [d2,if_true,k5 ya,Option.bind_some,hf _ (List.getElem_mem ya),List.getElem?_eq_getElem ya]
   ·have d2:decide ((a:Int)<(l.length:Int))=false:=by simp; omega
    simp only [d2,Bool.false_eq_true,if_false,Option.bind_some,List.getElem?_eq_none (show l.length≤a by omega)]
theorem y8 {l:List a8} (hs:iJ l) (c:Int):eJ l c=if (match l[o5 l c]? with | some y=>oz y.ID c == 0 | .none=>false)=true then some (o5 l c) else .none:=by
 have h:=vu hs c
 have hk:=pM l c
 generalize o5 l c=k at h hk
 by_cases Hy:k<l.length
 ·rw [List.getElem?_eq_getElem Hy]
  simp only [beq_iff_eq,kO]
  split
  ·rename_i hc
   unfold eJ
   rw [List.findIdx?_eq_some_iff_getElem]
   refine ⟨Hy,by simpa using hc,fun j hj=>?_⟩
   have:=(h j (by omega)).1 hj
   simp; omega
  ·rename_i hc
   unfold eJ
   rw [List.findIdx?_eq_none_iff]
   intro y hy
   obtain ⟨q,hq,rfl⟩:=List.getElem_of_mem hy
   have h2:=h q hq
   rcases Nat.lt_trichotomy q k with hqk | rfl | hqk
   ·have:=h2.1 hqk; simp; omega
   ·simpa using hc
   ·have h3:=List.pairwise_iff_getElem.1 hs k q Hy hq hqk
    have h4:=h k Hy
    simp; omega
 ·rw [List.getElem?_eq_none (by omega)]
  simp only [Bool.false_eq_true,if_false]
  unfold eJ
  rw [List.findIdx?_eq_none_iff]
  intro y hy
  obtain ⟨q,hq,rfl⟩:=List.getElem_of_mem hy
  have:=(h q hq).1 (by omega)
  simp; omega
theorem Gf {l:List a8} (hs:iJ l) {c:Int} {j:Nat} (h:eJ l c=some j):j=o5 l c:=by
 rw [y8 hs] at h
 by_cases hc:(match l[o5 l c]? with | some y=>oz y.ID c == 0 | .none=>false)=true
 ·rw [if_pos hc] at h; exact (Option.some.inj h).symm
 ·rw [if_neg hc] at h; cases h
theorem iH {l:List a8} {c:Int} {j:Nat} (h:eJ l c=some j):∃ hj:j<l.length,l[j].ID=c:=by
 unfold eJ at h
 rw [List.findIdx?_eq_some_iff_getElem] at h
 exact ⟨h.1,by simpa using h.2.1⟩
theorem bsR {F:Nat} {l:List a8} {c:Int} (hs:iJ l) (hb:l.length<1000000) (Qq:l.length<F) :
  M7 F l c (fun a0 a1=>xc a0 a1)=some ((o5 l c:Int),(eJ l c).isSome):=by
 have h1:∀ y ∈ l,xc y c=some (oz y.ID c):=fun y _=>by simp [xc,pK]
 have hl:=Ah (l:=l) (x:=c) (p2:=fun a0 a1=>xc a0 a1) (f:=fun y=>oz y.ID c) hb (pM l c) h1 (fun q hq=>by rw [vu hs c q hq,rr]) F 0 l.length (by omega) (pM l c) (by omega) (by omega)
 unfold M7
 rw [show (0:Int)=((0:Nat):Int) from rfl,hl,y8 hs]
 congr 2
 cases hc:(match l[o5 l c]? with | some y=>oz y.ID c == 0 | .none=>false) <;> simp
end Go.Sh
namespace Go.Sh
open Go.L
structure oX (r:a8):Prop where
 n1:1≤r.ak.length
 n8:r.ak.length≤8
 ap:r.au.length=r.ak.length
 us:r.Uses.length≤300
 vs:∀ (i:Nat) x,r.ak[i]?=some x→iB x=0∧x.ID=r.ID∧x.Version=(i:Int)+1
 uv:∀ u ∈ r.Uses,1≤u.Version∧u.Version≤r.ak.length
structure kU (l:List a8):Prop where
 len:l.length≤40
 sort:iJ l
 ok:∀ r ∈ l,oX r
def vi (e:bu) (r:a8):Prop:=e.Ref.Version<1 ∨ e.Ref.Version > r.ak.length
instance (e:bu) (r:a8):Decidable (vi e r):=by unfold vi; infer_instance
def BD (e:bu) (r:a8):Bool:=r.au.getD (e.Ref.Version - 1).toNat false
def mV (r:a8) (e:bu):Int × a8 :=
 if e.Kind=2 then (if r.al=true ∨ e.Item.Version ≠ (r.ak.length:Int)+1 then (8,r) else (0,⟨r.ID,r.ak++[e.Item],r.au++[false],r.Uses,r.al⟩))
 else if e.Kind=3 then (if vi e r then (4,r) else if r.al=true then (8,r) else if BD e r=true then (5,r) else (0,⟨r.ID,r.ak,r.au.set (e.Ref.Version - 1).toNat true,r.Uses,r.al⟩))
 else if e.Kind=4 then (if vi e r then (4,r) else if r.al=true ∨ BD e r=false then (8,r) else if r.Uses.any (fun u=>u.Form == e.Form)=true then (5,r) else if 300≤r.Uses.length then (3,r) else (0,⟨r.ID,r.ak,r.au,r.Uses++[⟨e.Ref.Version,e.Form,e.ai.Time⟩],r.al⟩))
 else (if r.al=decide (e.Kind=5) then (8,r) else (0,⟨r.ID,r.ak,r.au,r.Uses,decide (e.Kind=5)⟩))
def UM (e:bu):Int:=if e.Kind=2 then e.Item.ID else e.Ref.ID
def Tk (l:List a8) (e:bu):List a8:=l.take (o5 l e.Item.ID)++[⟨e.Item.ID,[e.Item],[false],[],false⟩]++l.drop (o5 l e.Item.ID)
def qz (l:List a8) (e:bu):Int × List a8 :=
 if iB e.Item ≠ 0 then (iB e.Item,l) else if e.Item.Version ≠ 1 then (8,l) else if (eJ l e.Item.ID).isSome=true then (5,l) else if 40≤l.length then (3,l) else (0,Tk l e)
def qn (l:List a8) (e:bu):Int × List a8 :=
 match eJ l (UM e) with
 | .none=>(4,l)
 | some k=>match l[k]? with
  | .none=>(4,l)
  | some r=>if (mV r e).1=0 then (0,l.set k (mV r e).2) else ((mV r e).1,l)
def gl (l:List a8) (e:bu):Int × List a8 :=
 if e.Kind=1 then qz l e
 else if e.Kind=2 then (if iB e.Item ≠ 0 then (iB e.Item,l) else qn l e)
 else if e.Kind=3 ∨ e.Kind=4 ∨ e.Kind=5 ∨ e.Kind=6 then qn l e
 else (2,l)
theorem HQ {F:Nat} {l:List a8} {c:Int} (h:kU l) (hF:400<F):zI F ⟨l⟩ c=some ((o5 l c:Int),(eJ l c).isSome):=by
 unfold zI
 rw [bsR h.sort (by have:=h.len; omega) (by have:=h.len; omega)]; rfl
theorem xi {F:Nat} {l:List a8} {c:Int} (h:kU l) (hF:400<F):xd F ⟨l⟩ c=some ((eJ l c).map Int.ofNat):=by
 unfold xd
 rw [HQ h hF]
 simp only [Option.bind_some]
 cases hp:eJ l c with
 | none=>simp
 | some j =>
  obtain ⟨nz,_⟩:=iH hp
  simp only [Option.isSome_some,Bool.not_true,Bool.false_eq_true,if_false]
  rw [← Gf h.sort hp,k5 nz]
  rfl
theorem Ab {F:Nat} {l:List a8} {e:bu} (h:kU l) (hF:400<F):zG F ⟨l⟩ e.Ref=some (match eJ l e.Ref.ID with | .none=>.none | some j=>match l[j]? with | .none=>.none | some r=>if vi e r then .none else some (j:Int)):=by
 unfold zG
 rw [xi h hF]
 simp only [Option.bind_some]
 cases hp:eJ l e.Ref.ID with
 | none=>rfl
 | some j =>
  obtain ⟨nz,_⟩:=iH hp
  simp only [Option.map_some,rV,List.getElem?_eq_getElem nz]
  rw [show Int.ofNat j=(j:Int) from rfl,k5 nz]
  simp only [Option.bind_some,vi,Bool.or_eq_true,decide_eq_true_eq]
  split
  ·rename_i hh; simp only [hh,if_true]
  ·rename_i hh; simp only [hh,if_false]
theorem OG {F:Nat} {l:List a8} {e:bu} (h:kU l) (hF:400<F):Ef F ⟨l⟩ e=some ((qz l e).1,⟨(qz l e).2⟩):=by
 unfold Ef qz
 rw [lG (by omega),HQ h hF]
 simp only [Option.bind_some]
 by_cases h1:iB e.Item=0
 ·have hsh:=(sR (F:=F) (by omega) h1).1
  simp only [h1,bne_self_eq_false,Bool.false_eq_true,if_false,ne_eq,not_true_eq_false]
  by_cases h2:e.Item.Version=1
  ·simp only [h2,bne_self_eq_false,Bool.false_eq_true,if_false,not_true_eq_false]
   by_cases h3:(eJ l e.Item.ID).isSome=true
   ·simp only [h3,if_true]
   ·simp only [h3,if_false,Bool.false_eq_true]
    by_cases h4:40≤l.length
    ·have d:decide ((l.length:Int) ≥ 40)=true:=by simp; omega
     simp only [d,h4,if_true]
    ·have d:decide ((l.length:Int) ≥ 40)=false:=by simp; omega
     simp only [d,h4,if_false,Bool.false_eq_true,lH hsh,Option.bind_some]
     unfold Pd
     have hc:=pM l e.Item.ID
     rw [if_pos (by have:=h.len; constructor <;> omega)]
     rfl
  ·have d:(e.Item.Version != 1)=true:=by simp [h2]
   simp only [d,h2,if_true,not_false_eq_true]
 ·have d:(iB e.Item != 0)=true:=by simp [h1]
  simp only [d,h1,if_true,ne_eq,not_false_eq_true]
theorem Nw {F:Nat} {l:List a8} {e:bu} (h:kU l) (hF:400<F) (hk:e.Kind=2):Ed F ⟨l⟩ e=some ((gl l e).1,⟨(gl l e).2⟩):=by
 unfold Ed gl
 rw [lG (by omega),xi h hF]
 simp only [Option.bind_some,hk,show ¬ ((2:Int)=1) by omega,if_false,if_true]
 by_cases h1:iB e.Item=0
 ·have hsh:=(sR (F:=F) (by omega) h1).1
  simp only [h1,bne_self_eq_false,Bool.false_eq_true,if_false,ne_eq,not_true_eq_false]
  unfold qn
  simp only [UM,hk,if_true]
  cases hp:eJ l e.Item.ID with
  | none=>rfl
  | some j =>
   obtain ⟨nz,_⟩:=iH hp
   have hr:=h.ok l[j] (List.getElem_mem nz)
   simp only [Option.map_some,rV,List.getElem?_eq_getElem nz]
   rw [show Int.ofNat j=(j:Int) from rfl,k5 nz]
   simp only [Option.bind_some,mV,hk,if_true]
   have hw:i64 ((l[j].ak.length:Int)+1)=(l[j].ak.length:Int)+1:=by have:=hr.n8; rw [bR (by omega) (by omega)]
   rw [hw]
   by_cases h2:l[j].al=true ∨ e.Item.Version ≠ (l[j].ak.length:Int)+1
   ·have d:(l[j].al || e.Item.Version != (l[j].ak.length:Int)+1)=true:=by simpa using h2
    simp only [d,if_true,h2,show ¬ ((8:Int)=0) by omega,if_false]
   ·have d:(l[j].al || e.Item.Version != (l[j].ak.length:Int)+1)=false:=by simpa using h2
    simp only [d,Bool.false_eq_true,if_false,h2,lH hsh,Option.bind_some]
    rw [dp (by simp; have:=hr.n8; omega),Option.bind_some,dp (by simp; have:=hr.n8; have:=hr.ap; omega)]
    simp
 ·have d:(iB e.Item != 0)=true:=by simp [h1]
  simp only [d,h1,if_true,ne_eq,not_false_eq_true]
theorem Qj {e:bu} {r:a8} (hr:oX r) (h:¬ vi e r):idx r.au (i64 (e.Ref.Version - 1))=some (BD e r)∧i64 (e.Ref.Version - 1)=e.Ref.Version - 1:=by
 unfold vi at h
 have:=hr.n8
 have ha:=hr.ap
 have hw:i64 (e.Ref.Version - 1)=e.Ref.Version - 1:=by rw [bR (by omega) (by omega)]
 refine ⟨?_,hw⟩
 rw [hw]
 unfold BD
 rw [k6]
 refine ⟨by omega,?_⟩
 have:(e.Ref.Version - 1).toNat<r.au.length:=by omega
 rw [List.getD_eq_getElem?_getD,List.getElem?_eq_getElem this]; rfl
theorem IF {F:Nat} {l:List a8} {e:bu} (h:kU l) (hF:400<F) (hk:e.Kind=3):Ec F ⟨l⟩ e=some ((gl l e).1,⟨(gl l e).2⟩):=by
 unfold Ec gl qn
 rw [Ab h hF]
 simp only [Option.bind_some,hk,UM,show ¬ ((3:Int)=1) by omega,show ¬ ((3:Int)=2) by omega,if_false,true_or,if_true]
 cases hp:eJ l e.Ref.ID with
 | none=>rfl
 | some j =>
  obtain ⟨nz,_⟩:=iH hp
  have hr:=h.ok l[j] (List.getElem_mem nz)
  simp only [List.getElem?_eq_getElem nz,mV,hk,show ¬ ((3:Int)=2) by omega,if_false,if_true]
  by_cases hb:vi e l[j]
  ·simp only [hb,if_true,rV,show ¬ ((4:Int)=0) by omega,if_false]
  ·obtain ⟨q1,q2⟩:=Qj hr hb
   simp only [hb,if_false,rV,k5 nz,Option.bind_some]
   by_cases hw:l[j].al=true
   ·simp only [hw,if_true,show ¬ ((8:Int)=0) by omega,if_false]
   ·simp only [hw,if_false,q1,Option.bind_some,Bool.false_eq_true]
    by_cases ha:BD e l[j]=true
    ·simp only [ha,if_true,show ¬ ((5:Int)=0) by omega,if_false]
    ·simp only [ha,if_false,Bool.false_eq_true,q2,if_true]
     rfl
theorem NY {F:Nat} {l:List bH} {p:bH→Option Bool} (f:bH→Bool) (hp:∀ u ∈ l,p u=some (f u)) (hb:l.length<1000000) (hF:l.length<F):Jz F l p=some (l.any f):=by
 unfold Jz HS
 rw [gF (a:=l) (L:=Gh l p) (fun i x=>if f x=true then some (i:Int) else .none) (-1) hb (fun n i x hx hi=>?_) (fun n=>?_) hF]
 ·simp only [Option.bind_some]
  congr 1
  have key:∀ (l:List bH) (i:Nat),decide (scan (fun i x=>if f x=true then some (i:Int) else .none) (-1:Int) i l ≥ 0)=l.any f:=by
   intro l
   induction l with
   | nil=>intro i; rfl
   | cons x l ih =>
    intro i
    unfold scan
    rw [List.any_cons]
    cases hf:f x with
    | true=>simp
    | false=>simp only [Bool.false_eq_true,if_false,Bool.false_or]; exact ih (i+1)
  exact key l 0
 ·simp only [Gh,Nf,dM hx,if_true,cr hx,Option.bind_some,dt hi,hp x (List.mem_of_getElem? hx)]
  cases f x <;> simp
 ·simp only [Gh,Nf,dL,Bool.false_eq_true,if_false]
theorem ZI {F:Nat} {l:List a8} {e:bu} (h:kU l) (hF:400<F) (hk:e.Kind=4):o3 F ⟨l⟩ e=some ((gl l e).1,⟨(gl l e).2⟩):=by
 unfold o3 gl qn
 rw [Ab h hF]
 simp only [Option.bind_some,hk,UM,show ¬ ((4:Int)=1) by omega,show ¬ ((4:Int)=2) by omega,show ¬ ((4:Int)=3) by omega,if_false,true_or,or_true,if_true]
 cases hp:eJ l e.Ref.ID with
 | none=>rfl
 | some j =>
  obtain ⟨nz,_⟩:=iH hp
  have hr:=h.ok l[j] (List.getElem_mem nz)
  simp only [List.getElem?_eq_getElem nz,mV,hk,show ¬ ((4:Int)=2) by omega,show ¬ ((4:Int)=3) by omega,if_false,if_true]
  by_cases hb:vi e l[j]
  ·simp only [hb,if_true,rV,show ¬ ((4:Int)=0) by omega,if_false]
  ·obtain ⟨q1,q2⟩:=Qj hr hb
   simp only [hb,if_false,rV,k5 nz,Option.bind_some,q1,PO]
   have hu:=hr.us
   by_cases hw:l[j].al=true ∨ BD e l[j]=false
   ·have d:(l[j].al || !(BD e l[j]))=true:=by simpa using hw
    simp only [d,hw,if_true,show ¬ ((8:Int)=0) by omega,if_false]
   ·have d:(l[j].al || !(BD e l[j]))=false:=by simpa using hw
    simp only [d,hw,if_false,Bool.false_eq_true]
    rw [NY (p:=fun a0=>Ih a0 e) (fun u=>u.Form == e.Form) (fun u _=>rfl) (by omega) (by omega)]
    simp only [Option.bind_some]
    by_cases ha:(l[j].Uses.any fun u=>u.Form == e.Form)=true
    ·simp only [ha,if_true,show ¬ ((5:Int)=0) by omega,if_false]
    ·simp only [ha,if_false,Bool.false_eq_true]
     by_cases h3:300≤l[j].Uses.length
     ·have d3:decide ((l[j].Uses.length:Int) ≥ 300)=true:=by simp; omega
      simp only [d3,h3,if_true,show ¬ ((3:Int)=0) by omega,if_false]
     ·have d3:decide ((l[j].Uses.length:Int) ≥ 300)=false:=by simp; omega
      simp only [d3,h3,if_false,Bool.false_eq_true,if_true]
      rw [dp (by simp; omega)]
      rfl
theorem xO {F:Nat} {l:List a8} {e:bu} (h:kU l) (hF:400<F) (hk:e.Kind=5 ∨ e.Kind=6):za F ⟨l⟩ e (decide (e.Kind=5))=some ((gl l e).1,⟨(gl l e).2⟩):=by
 have n1:¬ e.Kind=1:=by omega
 have n2:¬ e.Kind=2:=by omega
 have n3:¬ e.Kind=3:=by omega
 have n4:¬ e.Kind=4:=by omega
 unfold za gl qn
 rw [xi h hF]
 simp only [Option.bind_some,n1,n2,n3,n4,hk,UM,if_false,false_or,if_true]
 cases hp:eJ l e.Ref.ID with
 | none=>rfl
 | some j =>
  obtain ⟨nz,_⟩:=iH hp
  simp only [Option.map_some,List.getElem?_eq_getElem nz,mV,n2,n3,n4,if_false,rV]
  rw [show Int.ofNat j=(j:Int) from rfl,k5 nz]
  simp only [Option.bind_some,beq_iff_eq]
  by_cases hw:l[j].al=decide (e.Kind=5)
  ·simp only [hw,if_true,show ¬ ((8:Int)=0) by omega,if_false]
  ·simp only [hw,if_false,if_true]
   rfl
theorem JQ {l:List a8} (hs:iJ l) {k:Nat} (hk:k<l.length) {b:a8} (hb:b.ID=l[k].ID):iJ (l.set k b):=by
 unfold iJ at *
 rw [List.pairwise_iff_getElem] at hs ⊢
 intro i j hi hj ra
 rw [List.getElem_set,List.getElem_set]
 have fQ:i<l.length:=by simpa using hi
 have Bh:j<l.length:=by simpa using hj
 split
 ·rename_i h1
  split
  ·omega
  ·subst h1; rw [hb]; exact hs _ _ fQ Bh ra
 ·split
  ·rename_i h1 h2; subst h2; rw [hb]; exact hs _ _ fQ Bh ra
  ·exact hs _ _ fQ Bh ra
theorem CE {l:List a8} {n:Int} (h:eJ l n=.none):∀ x ∈ l,x.ID ≠ n:=fun x hx hn=>by
 unfold eJ at h
 rw [List.findIdx?_eq_none_iff] at h
 have:=h x hx
 simp [hn] at this
theorem JP {l:List a8} (hs:iJ l) {n:Int} (hn:eJ l n=.none) {b:a8} (hb:b.ID=n):iJ (l.take (o5 l n)++[b]++l.drop (o5 l n)):=by
 have hc:=vu hs n
 have hk:=pM l n
 have eO:=CE hn
 generalize o5 l n=k at hc hk
 have h1:∀ x ∈ l.take k,x.ID<n:=fun x hx=>by
  obtain ⟨q,hq,rfl⟩:=List.getElem_of_mem hx
  simp only [List.length_take] at hq
  rw [List.getElem_take]
  exact (hc q (by omega)).1 (by omega)
 have h2:∀ x ∈ l.drop k,n<x.ID:=fun x hx=>by
  obtain ⟨q,hq,rfl⟩:=List.getElem_of_mem hx
  simp only [List.length_drop] at hq
  rw [List.getElem_drop]
  have:=(hc (k+q) (by omega))
  have h3:=eO _ (List.getElem_mem (show k+q<l.length by omega))
  omega
 unfold iJ at *
 rw [List.append_assoc,List.pairwise_append]
 refine ⟨hs.sublist (List.take_sublist _ _),?_,?_⟩
 ·rw [List.singleton_append,List.pairwise_cons]
  exact ⟨fun x hx=>by rw [hb]; exact h2 x hx,hs.sublist (List.drop_sublist _ _)⟩
 ·intro x hx y hy
  rw [List.singleton_append] at hy
  rcases List.mem_cons.1 hy with rfl | hy
  ·rw [hb]; exact h1 x hx
  ·have:=h1 x hx; have:=h2 y hy; omega
theorem KY {r:a8} {e:bu}:(mV r e).2.ID=r.ID:=by
 unfold mV
 repeat' split
 all_goals rfl
theorem KZ {r:a8} {e:bu} (h:oX r) (hc:e.Kind=2→iB e.Item=0∧e.Item.ID=r.ID):oX (mV r e).2:=by
 unfold mV
 split
 ·rename_i hk
  obtain ⟨c1,c2⟩:=hc hk
  split
  ·exact h
  ·rename_i h2
   simp only [not_or,ne_eq,Decidable.not_not] at h2
   have c3:=(sR (F:=100) (by omega) c1).2
   refine ⟨by simp,by simp; omega,by simp [h.ap],h.us,fun i x hx=>?_,fun u hu=>?_⟩
   ·simp only [List.getElem?_append] at hx
    split at hx
    ·exact h.vs i x hx
    ·rename_i hi
     rw [List.getElem?_singleton] at hx
     split at hx
     ·cases hx; exact ⟨c1,c2,by omega⟩
     ·cases hx
   ·have:=h.uv u hu
    simp only [List.length_append,List.length_singleton]
    omega
 ·split
  ·split
   ·exact h
   ·split
    ·exact h
    ·split
     ·exact h
     ·exact ⟨h.n1,h.n8,by simp [h.ap],h.us,h.vs,h.uv⟩
  ·split
   ·split
    ·exact h
    ·rename_i hb
     split
     ·exact h
     ·split
      ·exact h
      ·split
       ·exact h
       ·refine ⟨h.n1,h.n8,h.ap,by simp; omega,h.vs,fun u hu=>?_⟩
        rcases List.mem_append.1 hu with hu | hu
        ·exact h.uv u hu
        ·rw [List.mem_singleton] at hu
         subst hu
         unfold vi at hb
         simp only
         omega
   ·split
    ·exact h
    ·exact ⟨h.n1,h.n8,h.ap,h.us,h.vs,h.uv⟩
theorem yJ {l:List a8} {e:bu} (h:kU l) (hc:e.Kind=2→iB e.Item=0):kU (qn l e).2:=by
 unfold qn
 cases hp:eJ l (UM e) with
 | none=>exact h
 | some k =>
  obtain ⟨hk,bX⟩:=iH hp
  simp only [List.getElem?_eq_getElem hk]
  split
  ·refine ⟨by simpa using h.len,JQ h.sort hk KY,fun r hr=>?_⟩
   rcases List.mem_or_eq_of_mem_set hr with hr | rfl
   ·exact h.ok r hr
   ·refine KZ (h.ok _ (List.getElem_mem hk)) fun h2=>⟨hc h2,?_⟩
    rw [bX]; simp [UM,h2]
  ·exact h
theorem zP {l:List a8} {e:bu} (h:kU l):kU (gl l e).2:=by
 unfold gl
 split
 ·unfold qz
  split
  ·exact h
  ·rename_i h1
   split
   ·exact h
   ·rename_i h2
    split
    ·exact h
    ·rename_i h3
     split
     ·exact h
     ·rename_i h4
      simp only [ne_eq,Decidable.not_not] at h1 h2
      have hp:eJ l e.Item.ID=.none:=by simpa using h3
      unfold Tk
      refine ⟨by simp; have:=pM l e.Item.ID; omega,JP h.sort hp rfl,fun r hr=>?_⟩
      simp only [List.mem_append,List.mem_singleton] at hr
      rcases hr with (hr | rfl) | hr
      ·exact h.ok r (List.mem_of_mem_take hr)
      ·refine ⟨by simp,by simp,by simp,by simp,fun i x hx=>?_,by simp⟩
       simp only [List.getElem?_singleton] at hx
       split at hx
       ·cases hx; rename_i hi; exact ⟨h1,rfl,by omega⟩
       ·cases hx
      ·exact h.ok r (List.mem_of_mem_drop hr)
 ·split
  ·split
   ·exact h
   ·rename_i h1; exact yJ h fun _=>by simpa using h1
  ·rename_i h2
   split
   ·exact yJ h fun hk=>absurd hk h2
   ·exact h
theorem xL:kU []:=⟨by simp,by simp [iJ],by simp⟩
end Go.Sh
namespace Go.Sh
open Go.L
def P9 (r:a8) (i:Nat) (x:ah):Bool:=decide (iB x=0) && (decide (x.ID=r.ID) && decide (x.Version=(i:Int)+1))
def NX (r:a8) (u:bH):Bool:=decide (1≤u.Version) && decide (u.Version≤(r.ak.length:Int))
def GS (r:a8):Bool:=!(decide ((r.ak.length:Int)<1) || (decide ((r.ak.length:Int) > 8) || (((r.au.length:Int) != (r.ak.length:Int)) || decide ((r.Uses.length:Int) > 300)))) &&
 scan (fun i x=>if P9 r i x=true then .none else some false) (r.Uses.all (NX r)) 0 r.ak
theorem yD {F:Nat} {r:a8} (hF:400<F):zj F r=some (GS r):=by
 unfold zj GS
 cases h1:(decide ((r.ak.length:Int)<1) || (decide ((r.ak.length:Int) > 8) || (((r.au.length:Int) != (r.ak.length:Int)) || decide ((r.Uses.length:Int) > 300)))) with
 | true=>simp
 | false =>
  simp only [Bool.or_eq_false_iff,decide_eq_false_iff_not] at h1
  simp only [Bool.false_eq_true,if_false,Bool.not_false,Bool.true_and]
  refine gF _ _ (by omega) (fun n i x hx hi=>?_) (fun n=>?_) (by omega)
  ·have hi8:i<8:=by have:=(List.getElem?_eq_some_iff.1 hx).1; omega
   have hw:i64 ((i:Int)+1)=(i:Int)+1:=by rw [bR (by omega) (by omega)]
   simp only [zb,C1,dM hx,if_true,cr hx,Option.bind_some,lG (show 50<F by omega),PO,hw]
   have e:P9 r i x=!((iB x != 0) || (x.ID != r.ID || x.Version != (i:Int)+1)):=by
    unfold P9
    refine bEq ?_
    simp only [Bool.and_eq_true,decide_eq_true_eq,Bool.not_eq_true',Bool.or_eq_false_iff,bne_eq_false_iff_eq]
   rw [e]
   cases ((iB x != 0) || (x.ID != r.ID || x.Version != (i:Int)+1)) <;> simp
  ·simp only [zb,C1,dL,Bool.false_eq_true,if_false]
   refine pH (L:=GC r) (NX r) (by omega) (fun n i x hx hi=>?_) (fun n=>?_) (by omega)
   ·simp only [GC,C2,dM hx,if_true,cr hx,Option.bind_some,dt hi]
    have e:NX r x=!(decide (x.Version<1) || decide (x.Version > (r.ak.length:Int))):=by
     unfold NX
     refine bEq ?_
     simp only [Bool.and_eq_true,decide_eq_true_eq,Bool.not_eq_true',Bool.or_eq_false_iff,decide_eq_false_iff_not]
     omega
    rw [e]
    cases (decide (x.Version<1) || decide (x.Version > (r.ak.length:Int))) <;> simp
   ·simp only [GC,C2,dL,Bool.false_eq_true,if_false]
theorem Nt {r:a8}:GS r=true ↔ oX r:=by
 unfold GS
 rw [Bool.and_eq_true,tq]
 simp only [Bool.not_eq_true',Bool.or_eq_false_iff,decide_eq_false_iff_not,bne_eq_false_iff_eq,List.all_eq_true,NX,P9,Bool.and_eq_true,decide_eq_true_eq,Nat.zero_add]
 constructor
 ·rintro ⟨⟨a,b,c,d⟩,e,f⟩
  exact ⟨by omega,by omega,by omega,by omega,fun i x hx=>f i x hx,fun u hu=>e u hu⟩
 ·intro h
  have:=h.n1; have:=h.n8; have:=h.ap; have:=h.us
  exact ⟨⟨by omega,by omega,by omega,by omega⟩,fun u hu=>h.uv u hu,fun i x hx=>h.vs i x hx⟩
def UB (l:List a8) (i:Nat) (x:a8):Bool:=!(decide (0<i) && decide ((l.getD (i - 1) default).ID ≥ x.ID)) && GS x
def pE (l:List a8):Bool:=decide (l.length≤40) && scan (fun i x=>if UB l i x=true then .none else some false) true 0 l
theorem X4 {l:List a8} {i:Nat} {x:a8} (hi:i<1000000) (hx:l[i]?=some x) (h0:0<i):idx l (i64 ((i:Int) - 1))=some (l.getD (i - 1) default):=by
 have h1:=(List.getElem?_eq_some_iff.1 hx).1
 rw [bR (by omega) (by omega),show (i:Int) - 1=((i - 1:Nat):Int) by omega,pS]
 rw [List.getD_eq_getElem?_getD,List.getElem?_eq_getElem (show i - 1<l.length by omega)]; rfl
theorem N0 {F:Nat} {l:List a8} (hF:400<F):Eg F ⟨l⟩=some (pE l):=by
 unfold Eg pE
 by_cases h:l.length≤40
 ·have d:decide ((l.length:Int) > 40)=false:=by simp; omega
  simp only [d,Bool.false_eq_true,if_false,h,decide_true,Bool.true_and]
  refine gF _ _ (by omega) (fun n i x hx hi=>?_) (fun n=>?_) (by omega)
  ·simp only [zC,DX,dM hx,if_true,cr hx,Option.bind_some,dt hi,yD hF]
   unfold UB
   by_cases h0:0<i
   ·have d:decide ((i:Int) > 0)=true:=by simp; exact h0
    simp only [d,if_true,X4 hi hx h0,Option.bind_some,PO,h0,decide_true,Bool.true_and]
    cases decide ((l.getD (i - 1) default).ID ≥ x.ID) <;> cases GS x <;> simp
   ·have d:decide ((i:Int) > 0)=false:=by simp; omega
    simp only [d,Bool.false_eq_true,if_false,Option.bind_some,h0,decide_false,Bool.false_and,Bool.not_false,Bool.true_and]
    cases GS x <;> simp
  ·simp only [zC,DX,dL,Bool.false_eq_true,if_false]
 ·have d:decide ((l.length:Int) > 40)=true:=by simp; omega
  simp [d,h]
theorem JO {l:List a8} (h:∀ (i:Nat) x,l[i]?=some x→0<i→(l.getD (i - 1) default).ID<x.ID):iJ l:=by
 unfold iJ
 rw [List.pairwise_iff_getElem]
 have key:∀ (d i:Nat) (hi:i<l.length) (hj:i+d+1<l.length),l[i].ID<l[i+d+1].ID:=by
  intro d
  induction d with
  | zero =>
   intro i hi hj
   have:=h (i+1) l[i+1] (by simp) (by omega)
   simpa [hi] using this
  | succ d ih =>
   intro i hi hj
   have h1:=ih i hi (by omega)
   have:=h (i+(d+1)+1) l[i+(d+1)+1] (by simp) (by omega)
   rw [show i+(d+1)+1 - 1=i+d+1 by omega,List.getD_eq_getElem?_getD,List.getElem?_eq_getElem (show i+d+1<l.length by omega)] at this
   simp only [Option.getD_some] at this
   omega
 intro i j hi hj ra
 have:=key (j - i - 1) i hi (by omega)
 have e:i+(j - i - 1)+1=j:=by omega
 simpa only [e] using this
theorem qY {l:List a8}:pE l=true ↔ kU l:=by
 unfold pE
 rw [Bool.and_eq_true,tq,decide_eq_true_eq]
 simp only [UB,Bool.and_eq_true,Bool.not_eq_true',Bool.and_eq_false_iff,decide_eq_false_iff_not,Nt,Nat.zero_add,true_and]
 constructor
 ·rintro ⟨h1,h2⟩
  refine ⟨h1,JO fun i x hx h0=>?_,fun r hr=>?_⟩
  ·have:=(h2 i x hx).1; omega
  ·obtain ⟨i,hi⟩:=List.getElem?_of_mem hr
   exact (h2 i r hi).2
 ·intro h
  refine ⟨h.len,fun j x hx=>⟨?_,h.ok x (List.mem_of_getElem? hx)⟩⟩
  by_cases h0:0<j
  ·right
   obtain ⟨hj,rfl⟩:=List.getElem?_eq_some_iff.1 hx
   have:=List.pairwise_iff_getElem.1 h.sort (j - 1) j (by omega) hj (by omega)
   rw [List.getD_eq_getElem?_getD,List.getElem?_eq_getElem (show j - 1<l.length by omega)]
   simp only [Option.getD_some]; omega
  ·left; exact h0
structure Qf (F:Nat) (r:a8):Prop where
 vl:r.ak.length<1000000∧r.ak.length<F
 v:∀ x ∈ r.ak,Qg F x
 a:r.au.length<1000000∧r.au.length<F
 u:r.Uses.length<1000000∧r.Uses.length<F
theorem oX.sh {F:Nat} {r:a8} (h:oX r) (hF:400<F):Qf F r:=by
 have:=h.n8; have:=h.ap; have:=h.us
 refine ⟨by omega,fun x hx=>?_,by omega,by omega⟩
 obtain ⟨i,hi⟩:=List.getElem?_of_mem hx
 exact (sR (by omega) (h.vs i x hi).1).1
structure Kp (F:Nat) (l:List a8):Prop where
 l1:l.length<1000000
 l2:l.length<F
 r:∀ r ∈ l,Qf F r
theorem kU.sh {F:Nat} {l:List a8} (h:kU l) (hF:400<F):Kp F l :=
 ⟨by have:=h.len; omega,by have:=h.len; omega,fun r hr=>(h.ok r hr).sh hF⟩
def Tj (e:bu):xX:=⟨e.ai.Source,e.ai.Seq⟩
def kg:List bu→List a8→List gM→List a8 × List gM
 | [],l,r=>(l,r)
 | e :: s,l,r=>kg s (gl l e).2 (if (gl l e).1=0 then r else r++[⟨Tj e,(gl l e).1⟩])
def qX (u:Int) (l:List bu):List bu:=l.takeWhile fun e=>decide (e.ai.Time≤u)
def kf (ev:List bu) (u:Int):List a8 × List gM × Int :=
 let c:=jz (·.ai) ev
 if c.2 ≠ 0 then ([],[],c.2) else ((kg (qX u c.1) [] []).1,(kg (qX u c.1) [] []).2,0)
theorem IW {F:Nat} {u:Int} {c:List bu} {z:Int} (hF:400<F) (hb:c.length<1000000):∀ (s p:List bu) (n:Nat) (l:List a8) (r:List gM),c=p++s→s.length<n→kU l→r.length≤p.length→rZ F u (c,z) n (p.length:Int) r l=some (⟨(kg (qX u s) l r).1⟩,(kg (qX u s) l r).2,0):=by
 intro s
 induction s with
 | nil=>intro p n l r hp hn hv hr; cases n with
  | zero=>omega
  | succ n =>
   have:c=p:=by simpa using hp
   subst this
   simp only [rZ,D3,Int.lt_irrefl,decide_false,Bool.false_eq_true,if_false,qX,List.takeWhile_nil,kg]
 | cons e s ih=>intro p n l r hp hn hv hr; cases n with
  | zero=>omega
  | succ n =>
   have hlen:p.length<1000000:=by rw [hp] at hb; simp at hb; omega
   have d1:decide ((p.length:Int)<(c.length:Int))=true:=by rw [hp]; exact U3 p e s
   have i1:idx c (p.length:Int)=some e:=by rw [hp]; exact pj p e s
   simp only [rZ,D3,d1,if_true,i1,Option.bind_some]
   by_cases hu:e.ai.Time≤u
   ·have d2 : decide (e.ai.Time > u) = false := by simp; omega
    have hw:qX u (e :: s)=e :: qX u s:=by unfold qX; rw [List.takeWhile_cons_of_pos (by simpa using hu)]
    have HD:(gM.mk (Tj e) 0)=(gM.mk (Tj e) 0):=rfl
    have fin:∀ c':Int × List a8,gl l e=c'→(if (c'.1 != 0)=true then (app r [gM.mk (xX.mk e.ai.Source e.ai.Seq) c'.1]).bind fun v=>rZ F u (c,z) n (i64 ((p.length:Int)+1)) v c'.2 else rZ F u (c,z) n (i64 ((p.length:Int)+1)) r c'.2)
      = some (⟨(kg (qX u (e :: s)) l r).1⟩,(kg (qX u (e :: s)) l r).2,0):=fun c' Bd=>by
     rw [hw]
     simp only [kg,Bd,nxt p e (show p.length<1000000000 by omega)]
     have uR:kU c'.2:=by rw [← Bd]; exact zP hv
     by_cases h0:c'.1=0
     ·simp only [h0,bne_self_eq_false,Bool.false_eq_true,if_false,if_true]
      exact ih (p++[e]) n _ r (by rw [hp]; simp) (by simpa using hn) uR (by simp; omega)
     ·have hb0:(c'.1 != 0)=true:=by simp [h0]
      simp only [h0,hb0,if_true,if_false]
      rw [dp (by simp; omega),Option.bind_some]
      exact ih (p++[e]) n _ _ (by rw [hp]; simp) (by simpa using hn) uR (by simp; omega)
    simp only [d2,Bool.false_eq_true,if_false,beq_iff_eq]
    by_cases h1:e.Kind=1
    ·have e1:gl l e=qz l e:=by unfold gl; rw [if_pos h1]
     simp only [h1,if_true,OG hv hF,Option.bind_some]
     exact fin _ e1
    ·by_cases h2:e.Kind=2
     ·simp only [h2,show ¬ ((2:Int)=1) by omega,if_false,if_true,Nw hv hF h2,Option.bind_some]
      exact fin _ rfl
     ·by_cases h3:e.Kind=3
      ·simp only [h3,show ¬ ((3:Int)=1) by omega,show ¬ ((3:Int)=2) by omega,if_false,if_true,IF hv hF h3,Option.bind_some]
       exact fin _ rfl
      ·by_cases h4:e.Kind=4
       ·simp only [h4,show ¬ ((4:Int)=1) by omega,show ¬ ((4:Int)=2) by omega,show ¬ ((4:Int)=3) by omega,if_false,if_true,ZI hv hF h4,Option.bind_some]
        exact fin _ rfl
       ·by_cases h5:e.Kind=5
        ·have:=xO hv hF (.inl h5)
         rw [show decide (e.Kind=5)=true by simp [h5]] at this
         simp only [h5,if_false,if_true,this,Option.bind_some,show ¬ ((5:Int)=1) by omega,show ¬ ((5:Int)=2) by omega,show ¬ ((5:Int)=3) by omega,show ¬ ((5:Int)=4) by omega]
         exact fin _ rfl
        ·by_cases h6:e.Kind=6
         ·have:=xO hv hF (.inr h6)
          rw [show decide (e.Kind=5)=false by simp [h5]] at this
          simp only [h6,if_false,if_true,this,Option.bind_some,show ¬ ((6:Int)=1) by omega,show ¬ ((6:Int)=2) by omega,show ¬ ((6:Int)=3) by omega,show ¬ ((6:Int)=4) by omega,show ¬ ((6:Int)=5) by omega]
          exact fin _ rfl
         ·have e1:gl l e=(2,l):=by unfold gl; simp [h1,h2,h3,h4,h5,h6]
          simp only [h1,h2,h3,h4,h5,h6,if_false]
          exact fin _ e1
   ·have d2:decide (e.ai.Time > u)=true:=by simp; omega
    have hw:qX u (e :: s)=[]:=by unfold qX; rw [List.takeWhile_cons_of_neg (by simpa using hu)]
    simp [d2,hw,kg]
theorem BI {E:Type} [DecidableEq E] {st:E→bJ} {l:List E} {e:E} (h:e ∈ (jz st l).1):e ∈ l:=by
 unfold jz at h
 split at h
 ·simp at h
 ·unfold J1 lg at h
  rw [List.mem_filterMap] at h
  obtain ⟨i,_,hi⟩:=h
  exact List.mem_of_getElem? hi
theorem Fl {E:Type} [DecidableEq E] (st:E→bJ) (l:List E):(jz st l).1.length≤l.length:=by
 unfold jz
 split
 ·simp
 ·exact K6 st l
theorem La {F:Nat} (hF:400<F) {ev:List bu} {u:Int} (hc:BC F ev) (hb:ev.length<1000000) (hFe:ev.length<F):iK F ev u=some (⟨(kf ev u).1⟩,(kf ev u).2.1,(kf ev u).2.2):=by
 unfold iK kf
 rw [Ai (by omega) hc hb hFe]
 simp only [Option.bind_some]
 have hle:=Fl (fun x:bu=>x.ai) ev
 generalize jz (fun x:bu=>x.ai) ev=c at hle
 by_cases h0:c.2=0
 ·simp only [h0,bne_self_eq_false,Bool.false_eq_true,if_false,ne_eq,not_true_eq_false]
  have:=IW (c:=c.1) (u:=u) (z:=c.2) hF (by omega) c.1 [] F [] [] rfl (by omega) xL (by simp)
  exact this
 ·have:(c.2 != 0)=true:=by simp [h0]
  simp [this,h0]
theorem yL:∀ {s:List bu} {l:List a8} {r:List gM},kU l→kU (kg s l r).1
 | [],l,r,h=>h
 | e :: s,l,r,h=>by unfold kg; exact yL (zP h)
theorem IV {ev:List bu} {u:Int}:kU (kf ev u).1:=by
 unfold kf
 simp only
 split
 ·exact xL
 ·exact yL xL
theorem BT {ev:List bu} {u:Int} (h:ev.length≤300):kf ev u=((kg (qX u (J1 (·.ai) ev)) [] []).1,(kg (qX u (J1 (·.ai) ev)) [] []).2,0):=by
 unfold kf
 rw [xZ h]
 simp
end Go.Sh
namespace Go.Sh
open Go.L
def Ac:ah:=ah.mk 0 0 (ByteArray.mk #[]) [] []
theorem zL {α R:Type} (q:α→Bool) (f:α→R) (e:R):∀ (l:List α) (i:Nat),scan (fun _ x=>if q x=true then some (f x) else .none) e i l=(match l.find? q with | some x=>f x | .none=>e)
 | [],i=>rfl
 | x :: l,i=>by
  unfold scan
  rw [List.find?_cons]
  cases hq:q x with
  | true=>simp
  | false=>simp only [Bool.false_eq_true,if_false]; exact zL q f e l (i+1)
def J0 (l:List a8) (c v:Int):ah × Bool:=match l.find? (fun r=>decide (r.ID=c)) with
 | some r=>if v<1 ∨ v > r.ak.length then (Ac,false) else (r.ak.getD (v - 1).toNat Ac,true)
 | .none=>(Ac,false)
theorem xN {F:Nat} {l:List a8} {r:bD} (h:Kp F l):zF F ⟨l⟩ r=some (J0 l r.ID r.Version):=by
 unfold zF
 have e:J0 l r.ID r.Version=scan (fun _ (x:a8)=>if decide (x.ID=r.ID)=true then some ((fun x:a8=>if r.Version<1 ∨ r.Version > x.ak.length then (Ac,false) else (x.ak.getD (r.Version - 1).toNat Ac,true)) x) else .none) (Ac,false) 0 l:=by
  rw [zL]; unfold J0; cases l.find? (fun x=>decide (x.ID=r.ID)) <;> rfl
 rw [e]
 refine gF _ _ h.l1 (fun n i x hx hi=>?_) (fun n=>?_) h.l2
 ·simp only [zn,DI,dM hx,if_true,cr hx,Option.bind_some,dt hi]
  have hr:=h.r x (List.mem_of_getElem? hx)
  by_cases hc:x.ID=r.ID
  ·simp only [hc,bne_self_eq_false,decide_true,if_true,Bool.false_eq_true,if_false]
   by_cases hv:r.Version<1 ∨ r.Version > x.ak.length
   ·have d:(decide (r.Version<1) || decide (r.Version > (x.ak.length:Int)))=true:=by simpa using hv
    simp only [d,if_true,hv]; rfl
   ·have d:(decide (r.Version<1) || decide (r.Version > (x.ak.length:Int)))=false:=by simpa using hv
    have hl:=hr.vl.1
    have hw:i64 (r.Version - 1)=r.Version - 1:=by rw [bR (by omega) (by omega)]
    have pO:(r.Version - 1).toNat<x.ak.length:=by omega
    have J7:idx x.ak (r.Version - 1)=some x.ak[(r.Version - 1).toNat]:=by rw [k6]; exact ⟨by omega,by simp [pO]⟩
    simp only [d,Bool.false_eq_true,if_false,hv,hw,J7,Option.bind_some,lH (hr.v _ (List.getElem_mem pO))]
    rw [List.getD_eq_getElem?_getD,List.getElem?_eq_getElem pO]; rfl
  ·have:(x.ID != r.ID)=true:=by simp [hc]
   simp only [this,hc,decide_false,if_true,Bool.false_eq_true,if_false]
 ·simp only [zn,DI,dL,Bool.false_eq_true,if_false]; rfl
def ng (l:List Bool):Nat→Option Nat
 | 0=>.none
 | j+1=>if l.getD j false=true then some j else ng l j
theorem wc {l:List Bool}:∀ {j k:Nat},ng l j=some k→k<j∧l.getD k false=true∧∀ q,k<q→q<j→l.getD q false=false
 | 0,k,h=>by simp [ng] at h
 | j+1,k,h=>by
  unfold ng at h
  split at h
  ·rename_i hj; cases h; exact ⟨by omega,hj,fun q _ _=>by omega⟩
  ·rename_i hj
   obtain ⟨h1,h2,h3⟩:=wc h
   refine ⟨by omega,h2,fun q hq hq2=>?_⟩
   by_cases Z2:q=j
   ·subst Z2; simpa using hj
   ·exact h3 q hq (by omega)
def R8 (time rest iE:Int) (r:a8):Option bD :=
 if r.al=true ∨ (r.Uses.length:Int) > iE then .none
 else if r.Uses.any (fun u=>decide (u.Time > time - rest))=true then .none
 else (ng r.au r.au.length).map fun (j:Nat)=>⟨r.ID,(j:Int)+1⟩
def BP (l:List a8) (time rest iE:Int):List bD :=
 if pE l=false ∨ time<0 ∨ time > 1000000 ∨ rest<0 ∨ rest > 1000000 ∨ iE<0 then [] else l.filterMap (R8 time rest iE)
theorem VV {aE:Int→List bD→Option (List bD)} {n10:Int} {fe:List bD} {x:a8} (ha:x.au.length<1000000) (hl:fe.length<1000000):∀ (j n:Nat),j≤x.au.length→j<n →
  wW aE n10 fe x n ((j:Int) - 1)=aE (i64 (n10+1)) (fe++((ng x.au j).map fun (k:Nat)=>bD.mk x.ID ((k:Int)+1)).toList):=by
 intro j
 induction j with
 | zero=>intro n hj hn; cases n with
  | zero=>omega
  | succ n =>
   have d:decide (((0:Nat):Int) - 1 ≥ 0)=false:=by simp
   simp only [wW,DA,d,Bool.false_eq_true,if_false,ng,Option.map_none,Option.toList_none,List.append_nil]
 | succ j ih=>intro n hj hn; cases n with
  | zero=>omega
  | succ n =>
   have d:decide (((j+1:Nat):Int) - 1 ≥ 0)=true:=by simp
   have e:((j+1:Nat):Int) - 1=(j:Int):=by omega
   have nz:j<x.au.length:=by omega
   simp only [wW,DA,d,if_true]
   rw [e,k5 nz]
   have hg:x.au.getD j false=x.au[j]:=by rw [List.getD_eq_getElem?_getD,List.getElem?_eq_getElem nz]; rfl
   simp only [Option.bind_some,ng,hg]
   cases hx:x.au[j] with
   | true =>
    simp only [if_true,Option.map_some,Option.toList_some]
    rw [dp (by simp; omega),Option.bind_some]
    have hw:i64 ((j:Int)+1)=(j:Int)+1:=by rw [bR (by omega) (by omega)]
    rw [hw]
   | false =>
    simp only [Bool.false_eq_true,if_false]
    rw [bR (by omega) (by omega)]
    exact ih n (by omega) (by omega)
theorem qs {α β:Type} (f:α→Option β):∀ (l:List α) (i:Nat) (s:List β),run (fun _ x s=>(.inr (s++(f x).toList):List β ⊕ List β)) id i l s=s++l.filterMap f
 | [],i,s=>by simp [run]
 | x :: l,i,s=>by
  unfold run
  simp only
  rw [qs f l,List.filterMap_cons]
  cases f x <;> simp
theorem vw {F:Nat} {l:List a8} {time rest iE:Int} (hF:400<F):zy F ⟨l⟩ time rest iE=some (BP l time rest iE):=by
  unfold zy BP
  rw [N0 hF]
  simp only [Option.bind_some,PO]
  by_cases hc:pE l=false ∨ time<0 ∨ time > 1000000 ∨ rest<0 ∨ rest > 1000000 ∨ iE<0
  · have d:(!(pE l) || (decide (time<0) || (decide (time > 1000000) || (decide (rest<0) || (decide (rest > 1000000) || decide (iE<0))))))=true:=by simpa using hc
    simp only [d,if_true,hc]
  · have d:(!(pE l) || (decide (time<0) || (decide (time > 1000000) || (decide (rest<0) || (decide (rest > 1000000) || decide (iE<0))))))=false:=by simpa using hc
    simp only [d,Bool.false_eq_true,if_false,hc]
    simp only [not_or,Bool.not_eq_false] at hc
    obtain ⟨hv,h1,h2,h3,h4,h5⟩:=hc
    have hV:=qY.1 hv
    have hS:=hV.sh hF
    have hw:i64 (time - rest)=time - rest:=by rw [bR (by omega) (by omega)]
    have hlen:=hV.len
    have:=Ny (a:=l) (L:=wV F ⟨l⟩ time rest iE) (s0:=([]:List bD)) (F:=F) (fun _ x s=>(.inr (s++(R8 time rest iE x).toList):List bD ⊕ List bD)) id (fun i s=>s.length≤i) hS.l1 (fun n i x s hx hI=>?_) (fun n s hI=>?_) hS.l2 (by simp)
    · rw [this,qs]; simp
    · have QK:=List.mem_of_getElem? hx
      have hi:i<1000000:=by have:=(List.getElem?_eq_some_iff.1 hx).1; omega
      have iD:=hV.ok x QK
      refine ⟨?_, by simp only [List.length_append]; have : (R8 time rest iE x).toList.length ≤ 1 := by cases R8 time rest iE x <;> simp
                     omega⟩
      simp only [wV,Dz,dM hx,if_true,cr hx,Option.bind_some,dt hi]
      unfold R8
      by_cases a1:x.al=true ∨ (x.Uses.length:Int) > iE
      · have d1:(x.al || decide ((x.Uses.length:Int) > iE))=true:=by simpa using a1
        simp only [d1,if_true,a1,Option.toList_none,List.append_nil]
      · have d1:(x.al || decide ((x.Uses.length:Int) > iE))=false:=by simpa using a1
        simp only [d1,Bool.false_eq_true,if_false,a1]
        rw [NY (p:=fun a0=>DW a0 time rest) (fun u=>decide (u.Time > time - rest)) (fun u _=>by unfold DW; rw [hw]) (hS.r x QK).u.1 (hS.r x QK).u.2]
        simp only [Option.bind_some]
        by_cases a2:(x.Uses.any fun u=>decide (u.Time > time - rest))=true
        · simp only [a2,if_true,Option.toList_none,List.append_nil]
        · simp only [a2,if_false,Bool.false_eq_true]
          have ha:=(hS.r x QK).a
          rw [bR (by omega) (by omega),VV ha.1 (by omega) x.au.length F (Nat.le_refl _) ha.2]
          rw [dt hi]
    · simp only [wV,Dz,dL,Bool.false_eq_true,if_false]; rfl
end Go.Sh
namespace Go.Sh
open Go.L
abbrev cS {α:Type} (x:Option α) (P:α→Prop):Prop:=∃ a,x=some a∧P a
theorem cS.bind {α β:Type} {x:Option α} {f:α→Option β} {P:α→Prop} {Q:β→Prop} (h:cS x P) (k:∀ a,P a→cS (f a) Q):cS (x.bind f) Q:=by
 obtain ⟨a,rfl,ha⟩:=h; exact k a ha
theorem cS.pure {α:Type} {a:α} {P:α→Prop} (h:P a):cS (some a) P:=⟨a,rfl,h⟩
theorem cS.ite {α:Type} {c:Prop} [Decidable c] {a b:Option α} {P:α→Prop} (h1:c→cS a P) (h2:¬ c→cS b P):cS (if c then a else b) P:=by
 by_cases h:c
 ·rw [if_pos h]; exact h1 h
 ·rw [if_neg h]; exact h2 h
theorem cS.app {α β:Type} {xs ys:List α} {f:List α→Option β} {Q:β→Prop} (h:xs.length+ys.length≤549755813888) (k:cS (f (xs++ys)) Q):cS ((app xs ys).bind f) Q:=by
 rw [dp h]; exact k
theorem cS.idx {α β:Type} {l:List α} {i:Int} {f:α→Option β} {Q:β→Prop} (h0:0≤i) (h1:i<(l.length:Int)) (k:∀ x,x ∈ l→l[i.toNat]?=some x→cS (f x) Q):cS ((idx l i).bind f) Q:=by
 obtain ⟨j,rfl⟩:=Int.eq_ofNat_of_zero_le h0
 have hj:j<l.length:=by omega
 rw [k5 hj,Option.bind_some]
 exact k _ (List.getElem_mem hj) (by simp [hj])
theorem cS.imp {α:Type} {x:Option α} {P Q:α→Prop} (h:cS x P) (k:∀ a,P a→Q a):cS x Q:=by obtain ⟨a,h1,h2⟩:=h; exact ⟨a,h1,k a h2⟩
theorem iO {t:ax} (h:Tp t) (n:Int) (hn:n≤1000000000):cS (gw t n) fun r=>Tp r.2∧0≤r.1∧(1≤n→r.1<n)∧(n<1→r.1=0):=by
 obtain ⟨x,t',h1,h2,h3,h4,h5⟩:=AI h n hn; exact ⟨_,h1,h2,h3,h4,h5⟩
theorem ka {t:ax} (h:Tp t) (a b:Int) (ha:-1000≤a) (qo:a≤b) (hb:b≤100000000):cS (jI t a b) fun r=>Tp r.2∧a≤r.1∧r.1≤b:=by
 obtain ⟨x,t',h1,h2,h3,h4⟩:=PL h a b ha qo hb; exact ⟨_,h1,h2,h3,h4⟩
theorem Gc {t:ax} (h:Tp t) (n:Int) (hn:n≤1000000000):cS (nC t n) fun r=>Tp r.2:=by
 obtain ⟨x,t',h1,h2⟩:=X0 h n hn; exact ⟨_,h1,h2⟩
theorem X2 {t:ax} (h:Tp t) (l:List Int) (hl:1≤l.length) (FF:l.length≤1000):cS (rl t l) fun r=>Tp r.2∧r.1 ∈ l:=by
 obtain ⟨x,t',h1,h2,h3⟩:=Uu h l hl FF; exact ⟨_,h1,h2,h3⟩
theorem Uc {L:List Int} {A n:Int} (h:Tp (ax.mk L A)) (hn:n≤1000000):cS (if decide (n > 0)=true then (nC (ax.mk L A) n).bind fun r=>some (r.1,r.2.L,r.2.At) else some (false,L,A)) fun w=>Tp (ax.mk w.2.1 w.2.2)∧(n≤0→w.1=false):=by
 refine cS.ite (fun hc=>?_) fun hc=>cS.pure ⟨h,fun _=>rfl⟩
 simp only [decide_eq_true_eq] at hc
 exact (Gc h n (by omega)).bind fun r hr=>cS.pure ⟨hr,fun h0=>by omega⟩
theorem NF:∀ (l:List Int),(GZ l).size=l.length:=by
 have key:∀ (l:List Int) (b:ByteArray),(l.foldl (fun r n=>r.push (UInt8.ofNat n.toNat)) b).size=b.size+l.length:=by
  intro l
  induction l with
  | nil=>intro b; simp
  | cons x l ih=>intro b; rw [List.foldl_cons,ih]; simp; omega
 intro l; unfold GZ; rw [key]; simp
theorem cS.A5 {β:Type} {a b:ByteArray} {f:ByteArray→Option β} {Q:β→Prop} (h:a.size+b.size≤1000000000) (k:cS (f (a++b)) Q):cS ((Go.L.A5 a b).bind f) Q:=by
 unfold Go.L.A5; rw [if_pos h]; exact k
theorem ZM {F:Nat} {t:ax} (h:Tp t) (hF:20<F):cS (KF F t 3) fun r=>Tp r.2∧r.1.size≤3:=by
 unfold KF
 refine (ka h 1 3 (by omega) (by omega) (by omega)).bind fun r1 h1=>?_
 refine MD (L:=KG) (B:=KH) (fun _=>rfl) (fun b n l a=>(b.size:Int)+n≤3∧0≤n∧Tp (ax.mk l a)) (fun _ n _ _=>n.toNat) (fun r=>Tp r.2∧r.1.size≤3) ?_ F (ByteArray.mk #[]) r1.1 r1.2.L r1.2.At ⟨by show ((0:Nat):Int)+_≤3; omega,by omega,h1.1⟩ (by omega)
 intro rec b n l a hI ih
 obtain ⟨q1,q2,q3⟩:=hI
 unfold KH
 refine cS.ite (fun hc=>?_) fun hc=>cS.pure ⟨q3,by show b.size≤3; omega⟩
 simp only [decide_eq_true_eq] at hc
 refine (iO q3 3 (by omega)).bind fun r hr=>?_
 have hs:(GZ [(IntKind.u8.wrap (i64 (97+r.1)))]).size=1:=NF _
 refine cS.A5 (by rw [hs]; omega) ?_
 rw [bR (n:=n - 1) (by omega) (by omega)]
 exact ih _ _ _ _ ⟨by rw [ByteArray.size_append,hs]; omega,by omega,hr.1⟩ (by omega)
def Ow (x:ah):Prop:=x.aH.length≤20∧x.aO.length≤20
theorem Ow.sh {F:Nat} {x:ah} (h:Ow x) (hF:50<F):Qg F x:=by
 have:=h.1; have:=h.2
 exact ⟨⟨by omega,by omega⟩,by omega,by omega⟩
def EvB (n:Int) (e:bu):Prop:=Ow e.Item∧(n≤0→0≤e.Item.ID∧e.Item.ID<5)
def VD (n:Int) (l:List bu):Prop:=∀ e ∈ l,EvB n e
theorem VD.short {F:Nat} {n:Int} {l:List bu} (h:VD n l) (hF:50<F):BC F l:=fun e he=>(h e he).1.sh hF
section
variable {aE:Int→List Int→Int→List Int→List bu→Option (List bu × ax)} {n3:Int} {l7:List bu} {nE:List bu × ax→Prop} {n:Int}
end
end Go.Sh
namespace Go.Sh
open Go.L
theorem ca {α σ R:Type} {a:List α} {L:Nat→Int→σ→Option R} (I:Nat→σ→Prop) {Q:R→Prop}
  (hS:∀ n (i:Nat) x s,a[i]?=some x→I i s→cS (L (n+1) (i:Int) s) Q ∨ ∃ s',L (n+1) (i:Int) s=L n ((i+1:Nat):Int) s'∧I (i+1) s')
  (hE:∀ n s,I a.length s→cS (L (n+1) (a.length:Int) s) Q) {F:Nat} (hF:a.length<F) {s0:σ} (h0:I 0 s0):cS (L F 0 s0) Q:=by
 have key:∀ (k i n:Nat) (s:σ),i+k=a.length→k<n→I i s→cS (L n (i:Int) s) Q:=by
  intro k
  induction k with
  | zero=>intro i n s hi hn hI; cases n with
   | zero=>omega
   | succ n =>
    have:i=a.length:=by omega
    subst this; exact hE n s hI
  | succ k ih=>intro i n s hi hn hI; cases n with
   | zero=>omega
   | succ n =>
    have hl:i<a.length:=by omega
    rcases hS n i a[i] s (by simp [hl]) hI with h | ⟨s',h1,h2⟩
    ·exact h
    ·rw [h1]; exact ih (i+1) n s' (by omega) (by omega) h2
 exact key a.length 0 F s0 (by omega) hF h0
theorem cS.U1 {α β:Type} {l:List α} {i:Nat} {x:α} {f:α→Option β} {Q:β→Prop} (h:l[i]?=some x) (k:cS (f x) Q):cS ((Go.L.idx l (i:Int)).bind f) Q:=by
 rw [cr h]; exact k
abbrev oZ (l:List Int) (i:Int):Int:=l.getD i.toNat 0
def dv (l:List Int):List Int→Int
 | []=>0
 | i :: c=>oZ l i+dv l c
theorem EJ (l:List Int):∀ a b:List Int,dv l (a++b)=dv l a+dv l b
 | [],b=>by simp [dv]
 | i :: a,b=>by simp only [List.cons_append,dv,EJ l a b]; omega
theorem si (l c:List Int) (i:Int):dv l (c++[i])=dv l c+oZ l i:=by rw [EJ]; simp [dv]
abbrev Small (l:List Int):Prop:=∀ x ∈ l,-10000≤x∧x≤10000
theorem sO {l:List Int} (h:Small l) (i:Int):-10000≤oZ l i∧oZ l i≤10000:=by
 unfold oZ
 rw [List.getD_eq_getElem?_getD]
 cases hx:l[i.toNat]? with
 | none=>simp
 | some x=>exact h x (List.mem_of_getElem? hx)
theorem lk {l:List Int} (h:Small l):∀ c:List Int,-10000 * (c.length:Int)≤dv l c∧dv l c≤10000 * (c.length:Int)
 | []=>by simp [dv]
 | i :: c=>by
  have h1:=sO h i
  have h2:=lk h c
  simp only [dv,List.length_cons]
  omega
structure q9 (P:cZ):Prop where
 n:P.aj.length≤12
 m:P.Rows.length≤60
 c:∀ x ∈ P.aj,0≤x∧x≤10000
 l:∀ r ∈ P.Rows,r.bU.length=P.aj.length
 s:∀ r ∈ P.Rows,Small r.bU
 b:∀ r ∈ P.Rows,-1000000≤r.bE∧r.bE≤1000000∧-1000000≤r.cX∧r.cX≤1000000
theorem q9.cs {P:cZ} (h:q9 P):Small P.aj:=fun x hx=>by have:=h.c x hx; omega
def iu (P:cZ) (s:List Int) (g:ar→Int):Prop:=s.length=P.Rows.length∧∀ (k:Nat) r,P.Rows[k]?=some r→s[k]?=some (g r)
def ko (P:cZ) (c:List Int):Bool:=P.Rows.all fun r=>!(decide (dv r.bU c<r.bE) || decide (dv r.bU c > r.cX))
theorem iu.congr {P:cZ} {s:List Int} {g g':ar→Int} (h:iu P s g) (e:∀ r ∈ P.Rows,g r=g' r):iu P s g' :=
 ⟨h.1,fun k r hr=>by rw [h.2 k r hr,e r (List.mem_of_getElem? hr)]⟩
theorem Qh {F:Nat} {P:cZ} {s:List Int} {g:ar→Int} {i:Nat} {t:Int} (hP:q9 P) (hF:60<F) (hs:iu P s g) (hg:∀ r ∈ P.Rows,-1000000≤g r∧g r≤1000000) (hi:i<P.aj.length) (ht:t=1 ∨ t=-1) :
  cS (zm F (i:Int) t P s) (fun s'=>iu P s' fun r=>g r+t * oZ r.bU (i:Int)):=by
 unfold zm
 have hm:=hP.m
 refine ca (a:=P.Rows) (L:=GD (i:Int) t P) (fun k l=>l.length=P.Rows.length∧∀ (j:Nat) r,P.Rows[j]?=some r→l[j]?=some (if j<k then g r+t * oZ r.bU (i:Int) else g r)) (fun n k r l hr hI=>.inr ?_) (fun n l hI=>?_) (by omega) ⟨hs.1,fun j r hr=>by simp [hs.2 j r hr]⟩
 ·have hk:k<P.Rows.length:=(List.getElem?_eq_some_iff.1 hr).1
  have eP:=List.mem_of_getElem? hr
  have h1:=hI.2 k r hr
  rw [if_neg (by omega)] at h1
  have hc:r.bU[i]?=some (oZ r.bU (i:Int)):=by
   have:i<r.bU.length:=by rw [hP.l r eP]; exact hi
   simp [oZ,List.getD,this]
  have Oc:=sO (hP.s r eP) (i:Int)
  have Qy:=hg r eP
  have ht1:i64 (t * oZ r.bU (i:Int))=t * oZ r.bU (i:Int):=by
   rcases ht with rfl | rfl
   ·exact bR (by omega) (by omega)
   ·exact bR (by omega) (by omega)
  have ht2:i64 (g r+t * oZ r.bU (i:Int))=g r+t * oZ r.bU (i:Int):=by
   rcases ht with rfl | rfl
   ·exact bR (by omega) (by omega)
   ·exact bR (by omega) (by omega)
  refine ⟨l.set k (g r+t * oZ r.bU (i:Int)),?_,by simp [hI.1],fun j r' om=>?_⟩
  ·simp only [GD,C6,dM hr,if_true,cr hr,cr h1,cr hc,Option.bind_some,ht1,ht2,dt (show k<1000000 by omega),Int.toNat_natCast]
  ·by_cases hj:j=k
   ·subst hj
    rw [hr] at om; cases om
    have:j<l.length:=by rw [hI.1]; exact hk
    simp [this]
   ·rw [List.getElem?_set_ne (Ne.symm hj),hI.2 j r' om]
    by_cases h9:j<k
    ·rw [if_pos h9,if_pos (by omega)]
    ·rw [if_neg h9,if_neg (by omega)]
 ·simp only [GD,C6,dL,Bool.false_eq_true,if_false]
  refine ⟨l,rfl,hI.1,fun k r hr=>?_⟩
  rw [hI.2 k r hr,if_pos (List.getElem?_eq_some_iff.1 hr).1]
theorem XR {F:Nat} {P:cZ} {s:List Int} {g:ar→Int} (hP:q9 P) (hF:60<F) (hs:iu P s g) :
  DV F P s=some (P.Rows.all fun r=>!(decide (g r<r.bE) || decide (g r > r.cX)),s):=by
 unfold DV
 have hm:=hP.m
 have:=gF (a:=P.Rows) (L:=GF P s) (F:=F) (fun _ r=>if (!(decide (g r<r.bE) || decide (g r > r.cX)))=true then .none else some (false,s)) (true,s) (by omega) (fun n k r hr hk=>?_) (fun n=>?_) (by omega)
 ·rw [this]
  have key:∀ (l:List ar) (i:Nat),scan (fun _ r=>if (!(decide (g r<r.bE) || decide (g r > r.cX)))=true then .none else some (false,s)) (true,s) i l=(l.all fun r=>!(decide (g r<r.bE) || decide (g r > r.cX)),s):=by
   intro l
   induction l with
   | nil=>intro i; rfl
   | cons r l ih =>
    intro i
    unfold scan
    rw [List.all_cons]
    cases (!(decide (g r<r.bE) || decide (g r > r.cX))) with
    | true=>simpa using ih (i+1)
    | false=>simp
  rw [key]
 ·simp only [GF,C7,dM hr,if_true,cr hr,cr (hs.2 k r hr),Option.bind_some,dt hk]
  by_cases h1:decide (g r<r.bE)=true
  ·simp [h1]
  ·by_cases h2:decide (g r > r.cX)=true
   ·simp [h1,h2]
   ·simp [h1,h2]
 ·simp only [GF,C7,dL,Bool.false_eq_true,if_false]
end Go.Sh
namespace Go.Sh
open Go.L
def iz (n:Nat):Nat→List Int→Prop
 | _,[]=>True
 | k,i :: l=>∃ j:Nat,i=(j:Int)∧k≤j∧j<n∧iz n (j+1) l
theorem iz.len {n:Nat}:∀ {l:List Int} {k:Nat},iz n k l→k≤n→l.length+k≤n
 | [],k,_,h=>by simpa using h
 | i :: l,k,⟨j,_,h1,h2,h3⟩,h=>by
  have:=h3.len (by omega)
  simp only [List.length_cons]; omega
theorem iz.mono {n:Nat}:∀ {l:List Int} {k k':Nat},iz n k l→k'≤k→iz n k' l
 | [],_,_,_,_=>trivial
 | i :: l,k,k',⟨j,h0,h1,h2,h3⟩,h=>⟨j,h0,by omega,h2,h3⟩
theorem iz.mem {n:Nat}:∀ {l:List Int} {k:Nat},iz n k l→∀ x ∈ l,∃ j:Nat,x=(j:Int)∧k≤j∧j<n
 | i :: l,k,⟨j,h0,h1,h2,h3⟩,x,hx=>by
  rcases List.mem_cons.1 hx with rfl | hx
  ·exact ⟨j,h0,h1,h2⟩
  ·obtain ⟨j',h4,h5,h6⟩:=h3.mem x hx
   exact ⟨j',h4,by omega,h6⟩
def Good (P:cZ) (pl:bb):Prop:=iz P.aj.length 0 pl.cT∧ko P pl.cT=true∧pl.jH=dv P.aj pl.cT
structure Out (P:cZ) (c:List Int) (E:List Int→Prop) (pl CD:bb):Prop where
 nG:(pl.Found=true→Good P pl)→CD.Found=true→Good P CD
 keep:pl.Found=true→CD.Found=true∧CD.jH≤pl.jH
 ez:∀ e,E e→ko P (c++e)=true→CD.Found=true∧CD.jH≤dv P.aj (c++e)
 nodes:CD.ke=pl.ke
 same:CD.Found=false→CD=pl
structure Pre (P:cZ) (c:List Int) (k:Nat):Prop where
 mK:∀ e,iz P.aj.length k e→iz P.aj.length 0 (c++e)
 len:c.length≤k
theorem KV {P:cZ} (hP:q9 P) {c:List Int} (h:c.length≤12):i64 (dv P.aj c)=dv P.aj c:=by
 have:=lk hP.cs c
 exact bR (by omega) (by omega)
theorem Qa {P:cZ} {c:List Int} {pl:bb} (h:c.length≤12) (hc:iz P.aj.length 0 c) (hm:ko P c=true) :
  cS (DR c (dv P.aj c) pl) (Out P c (fun e=>e=[]) pl):=by
 unfold DR
 by_cases hf:(!pl.Found || decide (dv P.aj c<pl.jH))=true
 ·rw [if_pos hf]
  refine cS.app (by simp; omega) ?_
  refine ⟨_,rfl,fun _ _=>⟨by simpa using hc,by simpa using hm,by simp⟩,fun h1=>⟨rfl,?_⟩,fun e he _=>by subst he; simp,rfl,fun h=>by cases h⟩
  rw [h1] at hf
  simp at hf ⊢
  exact Int.le_of_lt hf
 ·rw [if_neg hf]
  simp only [Bool.or_eq_true,Bool.not_eq_true',decide_eq_true_eq,not_or,Bool.not_eq_false,Int.not_lt] at hf
  exact ⟨_,rfl,fun h1 h2=>h1 h2,fun h1=>⟨h1,Int.le_refl _⟩,fun e he _=>by subst he; simpa using hf,rfl,fun _=>rfl⟩
theorem IP (c:List Int) (i:Int) (h:c.length≤1000000):KW (c++[i]) (i64 (((c++[i]).length:Int) - 1))=some c:=by
 have e:i64 (((c++[i]).length:Int) - 1)=(c.length:Int):=by
  rw [bR (by simp only [List.length_append,List.length_cons,List.length_nil]; omega) (by simp only [List.length_append,List.length_cons,List.length_nil]; omega)]; simp
 rw [e]
 unfold KW
 rw [if_pos ⟨by omega,by simp; omega⟩]
 simp
def VG (i:Nat):List Int→Prop
 | []=>True
 | x :: _=>x<(i:Int)
theorem NB {P:cZ} (hP:q9 P):∀ (F k:Nat) (c s:List Int) (pl:bb),100+(P.aj.length - k)≤F→k≤P.aj.length→Pre P c k→iu P s (fun r=>dv r.bU c) →
  cS (yt F (k:Int) (dv P.aj c) c P s pl) (fun z=>z.1=c∧iu P z.2.1 (fun r=>dv r.bU c)∧Out P c (iz P.aj.length k) pl z.2.2):=by
 intro F
 have hn:=hP.n
 induction F with
 | zero=>intro k c s pl hF; omega
 | succ F ih =>
  intro k c s pl hF hk hc hs
  have hcl:=hc.len
  -- the loop
  have loop : ∀ (d i m : Nat) (s1 : List Int) (E3 : bb), i + d = P.aj.length → d < m → k ≤ i → iu P s1 (fun r => dv r.bU c) → Out P c (fun e => iz P.aj.length k e ∧ VG i e) pl E3 →
    cS (GG F (yt F) (dv P.aj c) P m (i:Int) E3.Found E3.cT E3.jH E3.ke s1 c) (fun z=>z.1=c∧iu P z.2.1 (fun r=>dv r.bU c)∧Out P c (iz P.aj.length k) pl z.2.2):=by
   intro d
   induction d with
   | zero =>
    intro i m s1 E3 hi hm xT SV hO
    cases m with
    | zero=>omega
    | succ m =>
     have hin:i=P.aj.length:=by omega
     subst hin
     simp only [GG,C8,dL,Bool.false_eq_true,if_false]
     refine ⟨_,rfl,rfl,SV,hO.nG,hO.keep,fun e he hm=>hO.ez e ⟨he,?_⟩ hm,hO.nodes,hO.same⟩
     cases e with
     | nil=>trivial
     | cons x e=>obtain ⟨j,rfl,_,h2,_⟩:=he; show (j:Int)<_; omega
   | succ d ihd =>
    intro i m s1 E3 hi hm xT SV hO
    cases m with
    | zero=>omega
    | succ m =>
     have uN:i<P.aj.length:=by omega
     have hx:P.aj[i]?=some (oZ P.aj (i:Int)):=by simp [oZ,List.getD,uN]
     have yN:bb.mk E3.Found E3.cT E3.jH E3.ke=E3:=rfl
     have hlen:(c++[(i:Int)]).length≤i+1:=by simp; omega
     have Wd:i64 (dv P.aj c+oZ P.aj (i:Int))=dv P.aj (c++[(i:Int)]):=by
      rw [← si]; exact KV hP (by omega)
     simp only [GG,C8,dM hx,if_true,yN]
     refine cS.app (by simp; omega) ?_
     refine cS.bind (Qh (t:=1) hP (by omega) SV (fun r hr=>by have:=lk (hP.s r hr) c; omega) uN (.inl rfl)) fun s2 hs2=>?_
     have acj:iu P s2 (fun r=>dv r.bU (c++[(i:Int)])):=hs2.congr fun r hr=>by rw [si]; omega
     refine cS.U1 hx ?_
     rw [dt (by omega),Wd]
     have qJ:Pre P (c++[(i:Int)]) (i+1):=⟨fun e he=>by
      rw [List.append_assoc]
      exact hc.mK _ ⟨i,rfl,xT,uN,he⟩,hlen⟩
     refine cS.bind (ih (i+1) (c++[(i:Int)]) s2 E3 (by omega) (by omega) qJ acj) fun z hz=>?_
     obtain ⟨z1,z2,z3⟩:=z
     obtain ⟨rfl,hs3,J3⟩:=hz
     refine cS.bind (Qh (t:=-1) hP (by omega) hs3 (fun r hr=>by have:=lk (hP.s r hr) (c++[(i:Int)]); omega) uN (.inr rfl)) fun s4 hs4=>?_
     have ack:iu P s4 (fun r=>dv r.bU c):=hs4.congr fun r hr=>by simp only [si]; omega
     rw [IP c i (by omega)]
     refine ihd (i+1) m s4 z3 (by omega) (by omega) (by omega) ack ⟨fun hg hf=>J3.nG (hO.nG hg) hf,fun hf=>?_,fun e he Jd=>?_,J3.nodes.trans hO.nodes,fun hf=>by
      have e1:z3=E3:=J3.same hf
      rw [e1] at hf
      exact e1.trans (hO.same hf)⟩
     ·have h1:=hO.keep hf
      have h2:=J3.keep h1.1
      exact ⟨h2.1,Int.le_trans h2.2 h1.2⟩
     ·obtain ⟨U9,ZY⟩:=he
      have hold:(iz P.aj.length k e∧VG i e)→z3.Found=true∧z3.jH≤dv P.aj (c++e):=fun h=>by
       have h1:=hO.ez e h Jd
       have h2:=J3.keep h1.1
       exact ⟨h2.1,Int.le_trans h2.2 h1.2⟩
      cases e with
      | nil=>exact hold ⟨U9,trivial⟩
      | cons x e' =>
       obtain ⟨j,rfl,h1,h2,h3⟩:=id U9
       by_cases hj:j=i
       ·subst hj
        have:=J3.ez e' h3 (by rw [List.append_assoc]; exact Jd)
        rw [List.append_assoc] at this
        exact this
       ·refine hold ⟨U9,?_⟩
        have:(j:Int)<((i+1:Nat):Int):=ZY
        show (j:Int)<(i:Int)
        omega
  unfold yt
  rw [XR hP (by omega) hs]
  show cS (if ko P c=true then _ else _) _
  have aaY:iz P.aj.length 0 c:=by simpa using hc.mK [] trivial
  by_cases hm:ko P c=true
  ·rw [if_pos hm]
   refine cS.bind (Qa (by omega) aaY hm) fun E3 hO=>?_
   unfold ze
   refine loop (P.aj.length - k) k F s E3 (by omega) (by omega) (Nat.le_refl _) hs ⟨hO.nG,hO.keep,fun e he Jd=>?_,hO.nodes,hO.same⟩
   cases e with
   | nil=>exact hO.ez [] rfl Jd
   | cons x e'=>obtain ⟨⟨j,rfl,h1,_⟩,h2⟩:=he; have:(j:Int)<(k:Int):=h2; omega
  ·rw [if_neg hm]
   unfold ze
   refine loop (P.aj.length - k) k F s pl (by omega) (by omega) (Nat.le_refl _) hs ⟨fun h=>h,fun h=>⟨h,Int.le_refl _⟩,fun e he Jd=>?_,rfl,fun _=>rfl⟩
   cases e with
   | nil=>rw [List.append_nil] at Jd; exact absurd Jd hm
   | cons x e'=>obtain ⟨⟨j,rfl,h1,_⟩,h2⟩:=he; have:(j:Int)<(k:Int):=h2; omega
theorem R6 {F:Nat} {P:cZ} (hP:q9 P) (hF:200<F) {pl:bb} (h0:pl.Found=false) :
  cS (D8 F P pl) (fun CD=>(CD.Found=true→Good P CD)∧(∀ e,iz P.aj.length 0 e→ko P e=true→CD.Found=true∧CD.jH≤dv P.aj e)∧CD.ke=pl.ke∧(CD.Found=false→CD=pl)):=by
 unfold D8
 have hn:=hP.n; have hm:=hP.m
 rw [k7 (by omega)]
 simp only [Option.bind_some]
 show cS ((yt F ((0:Nat):Int) (dv P.aj []) [] P _ pl).bind _) _
 refine cS.bind (NB hP F 0 [] _ pl (by omega) (by omega) ⟨fun e he=>by simpa using he,by simp⟩ ⟨by simp,fun k r hr=>?_⟩) fun z hz=>?_
 ·have:k<P.Rows.length:=(List.getElem?_eq_some_iff.1 hr).1
  simp [dv,this]
 ·refine ⟨_,rfl,hz.2.2.nG (fun h=>by rw [h0] at h; cases h),fun e he Jd=>?_,hz.2.2.nodes,hz.2.2.same⟩
  simpa using hz.2.2.ez e he (by simpa using Jd)
end Go.Sh
namespace Go.Sh
open Go.L
theorem sz {F:Nat} {l:List Int} (h:Small l) (hb:l.length<1000000) (hF:l.length<F):JH F l=some true:=by
 unfold JH
 rw [pH (a:=l) (L:=Gm l) (fun x=>!(decide (x < -10000) || decide (x > 10000))) hb (fun n i x hx hi=>?_) (fun n=>?_) hF]
 ·congr 1
  simp only [List.all_eq_true]
  intro x hx; have:=h x hx; simp; omega
 ·simp only [Gm,Nn,dM hx,if_true,cr hx,Option.bind_some,dt hi]
  cases (decide (x < -10000) || decide (x > 10000)) <;> simp
 ·simp only [Gm,Nn,dL,Bool.false_eq_true,if_false]
theorem kL {F:Nat} {P:cZ} (hP:q9 P) (hF:100<F):th F P=some true:=by
 unfold th
 have hn:=hP.n; have hm:=hP.m
 rw [if_neg (by simp; omega)]
 have h2:Eh F P F 0=some true:=by
  rw [pH (a:=P.Rows) (L:=Eh F P) (fun r=>decide (r ∈ P.Rows)) (by omega) (fun n i r hr hi=>?_) (fun n=>?_) (by omega)]
  ·congr 1
   simp
  ·have eP:=List.mem_of_getElem? hr
   have hb:=hP.b r eP
   have hl:=hP.l r eP
   have e1:(((r.bU.length:Int) != (P.aj.length:Int)))=false:=by rw [hl]; simp
   have e2:Ek r.bE=some true:=by unfold Ek; congr 1; simp; omega
   have e3:Ek r.cX=some true:=by unfold Ek; congr 1; simp; omega
   simp only [Eh,Db,dM hr,if_true,cr hr,Option.bind_some,dt hi,e1,Bool.false_eq_true,if_false,sz (hP.s r eP) (by omega) (show r.bU.length<F by omega),e2,e3,Bool.not_true,eP,decide_true]
  ·simp only [Eh,Db,dL,Bool.false_eq_true,if_false]
 have:=gF (a:=P.aj) (L:=GI F P) (F:=F) (fun _ x=>(.none:Option Bool)) true (by omega) (fun n i x hx hi=>?_) (fun n=>?_) (by omega)
 ·rw [this]
  congr 1
  have key:∀ (l:List Int) (i:Nat),scan (fun _ _=>(.none:Option Bool)) true i l=true:=by
   intro l
   induction l with
   | nil=>intro i; rfl
   | cons x l ih=>intro i; exact ih (i+1)
  exact key _ _
 ·have hc:=hP.c x (List.mem_of_getElem? hx)
  have e1:(decide (x<0) || decide (x > 10000))=false:=by simp; omega
  simp only [GI,Da,dM hx,if_true,cr hx,Option.bind_some,dt hi,e1,Bool.false_eq_true,if_false]
 ·simp only [GI,Da,dL,Bool.false_eq_true,if_false]
  exact h2
def ui (P:cZ) (st:List Int):Prop:=st.length=P.aj.length∧∀ x ∈ st,-1≤x∧x≤1
theorem ui.set {P:cZ} {st:List Int} (h:ui P st) (i:Nat) {v:Int} (hv:-1≤v∧v≤1):ui P (st.set i v) :=
 ⟨by simp [h.1],fun x hx=>(List.mem_or_eq_of_mem_set hx).elim (h.2 x) (fun e=>by rw [e]; exact hv)⟩
theorem yS {F:Nat} {P:cZ} {st:List Int} {n:Int} (hP:q9 P) (hF:100<F) (h:ui P st) (hn:n=(P.aj.length:Int)):zg F st n=some true:=by
 subst hn
 unfold zg
 have h1:=hP.n
 rw [if_neg (by simp [h.1]; omega)]
 rw [pH (a:=st) (L:=Gs st) (fun x=>!(decide (x < -1) || decide (x > 1))) (by rw [h.1]; omega) (fun n i x hx hi=>?_) (fun n=>?_) (by rw [h.1]; omega)]
 ·congr 1
  simp only [List.all_eq_true]
  intro x hx; have:=h.2 x hx; simp; omega
 ·simp only [Gs,CO,dM hx,if_true,cr hx,Option.bind_some,dt hi]
  cases (decide (x < -1) || decide (x > 1)) <;> simp
 ·simp only [Gs,CO,dL,Bool.false_eq_true,if_false]
theorem Jg {F:Nat} {P:cZ} {st:List Int} (hP:q9 P) (hF:100<F) (h:ui P st):DD F st (P.aj.length:Int)=some true:=by
 unfold DD
 have h1:=hP.n
 rw [if_neg (by simp [h.1])]
 rw [pH (a:=st) (L:=Gr st) (fun x=>!(decide (x < -1) || decide (x > 1))) (by rw [h.1]; omega) (fun n i x hx hi=>?_) (fun n=>?_) (by rw [h.1]; omega)]
 ·congr 1
  simp only [List.all_eq_true]
  intro x hx; have:=h.2 x hx; simp; omega
 ·simp only [Gr,CL,dM hx,if_true,cr hx,Option.bind_some,dt hi]
  cases (decide (x < -1) || decide (x > 1)) <;> simp
 ·simp only [Gr,CL,dL,Bool.false_eq_true,if_false]
end Go.Sh
namespace Go.Sh
open Go.L
abbrev jw:aG:=aG.mk 3 0 0 0 (-1) 0 1
end Go.Sh
namespace Go.Sh
open Go.L
def jR (f:Int→Int→Int):List Int→List Int→Int
 | x :: l,s :: st=>f s x+jR f l st
 | _,_=>0
abbrev F4 (s x:Int):Int:=if s=1 then x else if s=-1 then min x 0 else 0
abbrev FD (s x:Int):Int:=if s=1 then x else if s=-1 then max x 0 else 0
abbrev tf (s x:Int):Int:=if s=1 then x else 0
theorem xp (f:Int→Int→Int):∀ (i:Nat) (l st:List Int) (x s:Int),l[i]?=some x→st[i]?=some s→jR f (l.take (i+1)) (st.take (i+1))=jR f (l.take i) (st.take i)+f s x
 | 0,l,st,x,s,h1,h2=>by
  cases l with
  | nil=>simp at h1
  | cons y l=>cases st with
   | nil=>simp at h2
   | cons t st=>simp at h1 h2; subst h1; subst h2; simp [jR]
 | i+1,l,st,x,s,h1,h2=>by
  cases l with
  | nil=>simp at h1
  | cons y l=>cases st with
   | nil=>simp at h2
   | cons t st =>
    have:=xp f i l st x s (by simpa using h1) (by simpa using h2)
    simp only [List.take_succ_cons,jR]
    omega
theorem nr {f:Int→Int→Int} (hf:∀ s x,-10000≤x→x≤10000→-10000≤f s x∧f s x≤10000):∀ (l st:List Int),Small l→-10000 * (l.length:Int)≤jR f l st∧jR f l st≤10000 * (l.length:Int)
 | [],st,_=>by simp [jR]
 | x :: l,[],_=>by simp only [jR,List.length_cons]; omega
 | x :: l,s :: st,h=>by
  have h1:=nr hf l st fun y hy=>h y (List.mem_cons_of_mem _ hy)
  have h2:=h x (by simp)
  have h3:=hf s x h2.1 h2.2
  simp only [jR,List.length_cons]
  omega
theorem Jm:∀ s x:Int,-10000≤x→x≤10000→-10000≤F4 s x∧F4 s x≤10000:=by
 intro s x h1 h2; unfold F4; split
 ·omega
 ·split <;> omega
theorem I6:∀ s x:Int,-10000≤x→x≤10000→-10000≤FD s x∧FD s x≤10000:=by
 intro s x h1 h2; unfold FD; split
 ·omega
 ·split <;> omega
theorem y7:∀ s x:Int,-10000≤x→x≤10000→-10000≤tf s x∧tf s x≤10000:=by
 intro s x h1 h2; unfold tf; split <;> omega
theorem Small.take {l:List Int} (h:Small l) (i:Nat):Small (l.take i):=fun x hx=>h x (List.mem_of_mem_take hx)
theorem NJ {F:Nat} {P:cZ} {st:List Int} {r:ar} (hP:q9 P) (hF:100<F) (h:ui P st) (hr:r ∈ P.Rows):xa F r st=some (jR F4 r.bU st,jR FD r.bU st,true):=by
 have h1:=hP.n
 have hl:=hP.l r hr
 have Oc:=hP.s r hr
 have key:cS (xa F r st) (fun z=>z=(jR F4 r.bU st,jR FD r.bU st,true)):=by
  unfold xa
  rw [yS hP hF h (by rw [hl])]
  simp only [Option.bind_some,Bool.not_true,Bool.false_eq_true,if_false,sz (hP.s r hr) (by omega) (show r.bU.length<F by omega)]
  refine ca (a:=r.bU) (L:=fun n i (s:Int × Int)=>wI r st n s.1 s.2 i) (fun i s=>s=(jR F4 (r.bU.take i) (st.take i),jR FD (r.bU.take i) (st.take i))) (fun n i x s hx hs=>.inr ?_) (fun n s hs=>?_) (by omega) (s0:=((0:Int),(0:Int))) (by simp [jR])
  ·subst hs
   have hi:i<st.length:=by rw [h.1,← hl]; exact (List.getElem?_eq_some_iff.1 hx).1
   have hs:st[i]?=some st[i]:=by simp [hi]
   have hlt:i<1000000:=by rw [h.1] at hi; omega
   have ha:=nr Jm _ (st.take i) (Oc.take i)
   have hb:=nr I6 _ (st.take i) (Oc.take i)
   have Bl:=Oc x (List.mem_of_getElem? hx)
   have hlen:(r.bU.take i).length≤12:=by simp; omega
   simp only [wI,Dm,dM hx,if_true,cr hx,cr hs,Option.bind_some,dt hlt,xp _ i _ _ _ _ hx hs]
   by_cases h2:(st[i] == 1)=true
   ·rw [if_pos h2]
    have e2:st[i]=1:=by simpa using h2
    rw [e2]
    rw [bR (by omega) (by omega),bR (by omega) (by omega)]
    exact ⟨(_,_),rfl,by simp⟩
   ·rw [if_neg h2]
    have e2:st[i] ≠ 1:=by simpa using h2
    by_cases h3:(st[i] == -1)=true
    ·rw [if_pos h3]
     have e3:st[i]=-1:=by simpa using h3
     rw [e3,bR (by omega) (by omega),bR (by omega) (by omega)]
     exact ⟨(_,_),rfl,by simp [F4,FD]⟩
    ·rw [if_neg h3]
     have e3:st[i] ≠ -1:=by simpa using h3
     exact ⟨(_,_),rfl,by simp [F4,FD,e2,e3]⟩
  ·subst hs
   simp only [wI,Dm,dL,Bool.false_eq_true,if_false]
   refine ⟨_,rfl,?_⟩
   have e:st.take r.bU.length=st:=by rw [hl,← h.1]; simp
   simp [e]
 obtain ⟨z,hz,rfl⟩:=key
 exact hz
def qm (r:ar) (st:List Int):Prop:=jR F4 r.bU st > r.cX ∨ jR FD r.bU st<r.bE ∨ r.bE > r.cX
theorem R4 {F:Nat} {P:cZ} {st:List Int} (hP:q9 P) (hF:100<F) (h:ui P st):cS (D5 F P st) (fun z=>(z=-1∧∀ r ∈ P.Rows,¬ qm r st) ∨ ∃ (k:Nat) (r:ar),z=(k:Int)∧P.Rows[k]?=some r∧qm r st):=by
 have h1:=hP.m
 unfold D5
 rw [kL hP hF]
 simp only [Option.bind_some,Bool.not_true,Bool.false_eq_true,if_false,yS hP hF h rfl]
 refine ca (a:=P.Rows) (L:=fun n i (_:Unit)=>wF F P st n i) (fun i _=>∀ (k:Nat) r,k<i→P.Rows[k]?=some r→¬ qm r st) (fun n i x s hx hI=>?_) (fun n s hI=>?_) (by omega) (s0:=()) (fun k r hk=>by omega)
 ·have hi:i<P.Rows.length:=(List.getElem?_eq_some_iff.1 hx).1
  simp only [wF,Dh,dM hx,if_true,cr hx,NJ hP hF h (List.mem_of_getElem? hx),Option.bind_some,dt (show i<1000000 by omega),Bool.true_and]
  by_cases hd:(decide (jR F4 x.bU st > x.cX) || (decide (jR FD x.bU st<x.bE) || decide (x.bE > x.cX)))=true
  ·rw [if_pos hd]
   exact .inl ⟨_,rfl,.inr ⟨i,x,rfl,hx,by simpa [qm] using hd⟩⟩
  ·rw [if_neg hd]
   refine .inr ⟨(),rfl,fun k r hk hr=>?_⟩
   by_cases xT:k=i
   ·subst xT; rw [hx] at hr; cases hr; intro hb; exact hd (by simpa [qm] using hb)
   ·exact hI k r (by omega) hr
 ·simp only [wF,Dh,dL,Bool.false_eq_true,if_false]
  refine ⟨_,rfl,.inl ⟨rfl,fun r hr=>?_⟩⟩
  obtain ⟨k,hk⟩:=List.getElem?_of_mem hr
  exact hI k r (List.getElem?_eq_some_iff.1 hk).1 hk
theorem yG {F:Nat} {P:cZ} {st:List Int} (hP:q9 P) (hF:100<F) (h:ui P st):GM F P st jw=some (jR tf P.aj st):=by
 have h1:=hP.n
 have key:cS (GM F P st jw) (fun z=>z=jR tf P.aj st):=by
  unfold GM
  rw [k7 (by omega)]
  simp only [Option.bind_some]
  rw [if_neg (by decide)]
  unfold C3
  rw [if_neg (by decide)]
  unfold C4
  refine ca (a:=P.aj) (L:=fun n i (s:Int)=>Gq P st jw (List.replicate P.aj.length 0) n s i) (fun i s=>s=jR tf (P.aj.take i) (st.take i)) (fun n i x s hx hs=>.inr ?_) (fun n s hs=>?_) (by omega) (show i64 (0 * 0)=0 by decide)
  ·subst hs
   have hl:i<P.aj.length:=(List.getElem?_eq_some_iff.1 hx).1
   have hi:i<st.length:=by rw [h.1]; exact hl
   have hs:st[i]?=some st[i]:=by simp [hi]
   have h0:(List.replicate P.aj.length (0:Int))[i]?=some 0:=by simp [hl]
   have ha:=nr y7 _ (st.take i) (hP.cs.take i)
   have Bl:=hP.c x (List.mem_of_getElem? hx)
   have hlen:(P.aj.take i).length≤12:=by simp; omega
   have e0:i64 (jw.Den * x)=x:=by show i64 (1 * x)=x; rw [Int.one_mul]; exact bR (by omega) (by omega)
   have e1:i64 (jw.qx * 0)=0:=by show i64 (0 * 0)=0; decide
   have e2:i64 (x - 0)=x:=by rw [Int.sub_zero]; exact bR (by omega) (by omega)
   simp only [Gq,CK,dM hx,if_true,cr hx,cr hs,cr h0,Option.bind_some,dt (show i<1000000 by omega),e0,e1,e2,xp _ i _ _ _ _ hx hs]
   by_cases h2:(st[i] == 1)=true
   ·rw [if_pos h2]
    have e3:st[i]=1:=by simpa using h2
    rw [e3,bR (by omega) (by omega)]
    exact ⟨_,rfl,by simp [tf]⟩
   ·rw [if_neg h2]
    have e3:st[i] ≠ 1:=by simpa using h2
    by_cases h3:(st[i] == -1)=true
    ·rw [if_pos h3,show min x 0=0 by omega,bR (by omega) (by omega)]
     exact ⟨_,rfl,by simp [tf,e3]⟩
    ·rw [if_neg h3]; exact ⟨_,rfl,by simp [tf,e3]⟩
  ·subst hs
   have e:st.take P.aj.length=st:=by rw [← h.1]; simp
   have ha:=nr y7 _ st hP.cs
   simp only [Gq,CK,dL,Bool.false_eq_true,if_false,e,List.take_length]
   unfold Ib quo Uy
   simp only [show ¬ ((1:Int)=0) by decide,if_false,Option.bind_some]
   rw [if_neg (by simp)]
   refine ⟨_,rfl,?_⟩
   simp
   exact bR (by omega) (by omega)
 obtain ⟨z,hz,rfl⟩:=key
 exact hz
theorem OE {F:Nat} {P:cZ} {st:List Int} (hP:q9 P) (hF:100<F) (h:ui P st):DT F P st jw=some (jR tf P.aj st,true):=by
 unfold DT
 rw [kL hP hF]
 have e1:AU P jw=some true:=by simp [AU]
 simp only [Option.bind_some,Bool.not_true,Bool.false_eq_true,if_false,Jg hP hF h,e1,yG hP hF h]
end Go.Sh
namespace Go.Sh
open Go.L
inductive iU:List Int→List Int→Prop
 | nil:iU [] []
 | cons {s t:Int} {st fu:List Int} (ht:t=0 ∨ t=1) (hs:s=-1 ∨ s=t) (h:iU st fu):iU (s :: st) (t :: fu)
theorem iU.Zn {st fu:List Int} (h:iU st fu):∀ l,jR F4 l st≤jR tf l fu∧jR tf l fu≤jR FD l st:=by
 induction h with
 | nil=>intro l; cases l <;> simp [jR]
 | @cons s t st fu ht hs h ih =>
  intro l
  cases l with
  | nil=>simp [jR]
  | cons x l =>
   have:=ih l
   simp only [jR,F4,tf,FD]
   rcases hs with rfl | rfl <;> rcases ht with rfl | rfl <;> simp <;> omega
theorem iU.get {st fu:List Int} (h:iU st fu):∀ {k:Nat} {s:Int},st[k]?=some s→∃ t,fu[k]?=some t∧(t=0 ∨ t=1):=by
 induction h with
 | nil=>intro k s hk; simp at hk
 | @cons s t st fu ht hs h ih =>
  intro k s' hk
  cases k with
  | zero=>exact ⟨t,rfl,ht⟩
  | succ k=>exact ih (k:=k) (by simpa using hk)
theorem iU.set {st fu:List Int} (h:iU st fu):∀ {k:Nat} {t:Int},fu[k]?=some t→iU (st.set k t) fu:=by
 induction h with
 | nil=>intro k s hk; simp at hk
 | @cons s t st fu ht hs h ih =>
  intro k t' hk
  cases k with
  | zero=>simp at hk; subst hk; exact .cons ht (.inr rfl) h
  | succ k=>exact .cons ht hs (ih (k:=k) (by simpa using hk))
theorem iU.root:∀ {fu:List Int},(∀ t ∈ fu,t=0 ∨ t=1)→iU (List.replicate fu.length (-1)) fu
 | [],_=>.nil
 | t :: fu,h=>.cons (h t (by simp)) (.inl rfl) (iU.root fun x hx=>h x (List.mem_cons_of_mem _ hx))
theorem iU.self:∀ {fu:List Int},(∀ t ∈ fu,t=0 ∨ t=1)→iU fu fu
 | [],_=>.nil
 | t :: fu,h=>.cons (h t (by simp)) (.inr rfl) (iU.self fun x hx=>h x (List.mem_cons_of_mem _ hx))
def IK:Nat→List Int→List Int
 | _,[]=>[]
 | i,t :: fu=>if t=1 then (i:Int) :: IK (i+1) fu else IK (i+1) fu
theorem Hj:∀ (fu:List Int) (k n:Nat),k+fu.length≤n→iz n k (IK k fu)
 | [],_,_,_=>trivial
 | t :: fu,k,n,h=>by
  simp only [List.length_cons] at h
  have ih:=Hj fu (k+1) n (by omega)
  unfold IK
  split
  ·exact ⟨k,rfl,Nat.le_refl _,by omega,ih⟩
  ·exact ih.mono (by omega)
theorem Aj (L:List Int):∀ (fu:List Int) (k:Nat),k+fu.length≤L.length→dv L (IK k fu)=jR tf (L.drop k) fu
 | [],k,_=>by cases L.drop k <;> simp [IK,dv,jR]
 | t :: fu,k,h=>by
  simp only [List.length_cons] at h
  have ih:=Aj L fu (k+1) (by omega)
  have hk:k<L.length:=by omega
  rw [List.drop_eq_getElem_cons hk]
  have e:oZ L (k:Int)=L[k]:=by simp [oZ,List.getD,hk]
  unfold IK
  simp only [jR,tf]
  split
  ·rw [dv,ih,e]
  ·rw [ih]; omega
theorem Fo:∀ (d k n:Nat) (c:List Int),k+d=n→iz n k c→∃ fu:List Int,fu.length=d∧(∀ t ∈ fu,t=0 ∨ t=1)∧IK k fu=c
 | 0,k,n,c,h,hc=>by
  cases c with
  | nil=>exact ⟨[],rfl,by simp,rfl⟩
  | cons x c=>obtain ⟨j,_,h1,h2,_⟩:=hc; omega
 | d+1,k,n,c,h,hc=>by
  have zero:iz n (k+1) c→∃ fu:List Int,fu.length=d+1∧(∀ t ∈ fu,t=0 ∨ t=1)∧IK k fu=c:=fun h'=>by
   obtain ⟨fu,h1,h2,h3⟩:=Fo d (k+1) n c (by omega) h'
   exact ⟨0 :: fu,by simp [h1],fun t ht=>(List.mem_cons.1 ht).elim (fun e=>.inl e) (h2 t),by simpa [IK] using h3⟩
  cases c with
  | nil=>exact zero trivial
  | cons x c =>
   obtain ⟨j,h0,h1,h2,h3⟩:=id hc
   by_cases hj:j=k
   ·subst hj
    obtain ⟨fu,h4,h5,h6⟩:=Fo d (j+1) n c (by omega) h3
    exact ⟨1 :: fu,by simp [h4],fun t ht=>(List.mem_cons.1 ht).elim (fun e=>.inr e) (h5 t),by simp [IK,h6,h0]⟩
   ·exact zero ⟨j,h0,by omega,h2,h3⟩
theorem yW {P:cZ} (hP:q9 P) {fu:List Int} (hl:fu.length=P.aj.length):ko P (IK 0 fu)=true ↔ ∀ r ∈ P.Rows,r.bE≤jR tf r.bU fu∧jR tf r.bU fu≤r.cX:=by
 unfold ko
 rw [List.all_eq_true]
 refine forall_congr' fun r=>forall_congr' fun hr=>?_
 rw [Aj r.bU fu 0 (by rw [hP.l r hr]; omega),List.drop_zero]
 simp
def Fg (P:cZ) (found:Bool) (ez:Int) (st:List Int) (nd:aG):Prop :=
 (∃ (k:Nat) (r:ar),nd=aG.mk 2 0 0 0 (k:Int) 0 0∧P.Rows[k]?=some r∧qm r st) ∨ (nd=jw∧found=true∧ez≤jR tf P.aj st)
inductive Tree (P:cZ) (found:Bool) (ez:Int) (ns:List aG):Nat→Nat→Nat→List Int→Prop
 | leaf {k lo:Nat} {st:List Int} {nd:aG} (h:ns[lo]?=some nd) (hl:Fg P found ez st nd):Tree P found ez ns k lo (lo+1) st
 | node {k lo mid hi:Nat} {st:List Int} {nd:aG} (h:ns[lo]?=some nd) (h1:nd.Kind=1) (h2:nd.Var=(k:Int)) (h3:nd.Zero=((lo+1:Nat):Int)) (h4:nd.One=(mid:Int)) (hk:k<P.aj.length) (hs:st[k]?=some (-1))
  (t0:Tree P found ez ns (k+1) (lo+1) mid (st.set k 0)) (t1:Tree P found ez ns (k+1) mid hi (st.set k 1)):Tree P found ez ns k lo hi st
theorem Tree.lt {P:cZ} {found:Bool} {ez:Int} {ns:List aG} {k lo hi:Nat} {st:List Int} (t:Tree P found ez ns k lo hi st):lo<hi:=by
 induction t with
 | leaf=>omega
 | node=>omega
theorem Tree.le {P:cZ} {found:Bool} {ez:Int} {ns:List aG} {k lo hi:Nat} {st:List Int} (t:Tree P found ez ns k lo hi st):hi≤ns.length:=by
 induction t with
 | leaf h=>have:=(List.getElem?_eq_some_iff.1 h).1; omega
 | node=>assumption
theorem Tree.congr {P:cZ} {found:Bool} {ez:Int} {ns ns':List aG} {k lo hi:Nat} {st:List Int} (t:Tree P found ez ns k lo hi st):(∀ j,lo≤j→j<hi→ns'[j]?=ns[j]?)→Tree P found ez ns' k lo hi st:=by
 induction t with
 | leaf h hl=>intro e; exact .leaf (by rw [e _ (Nat.le_refl _) (by omega)]; exact h) hl
 | node h h1 h2 h3 h4 hk hs t0 t1 Xh Xi =>
  intro e
  have:=t0.lt; have:=t1.lt
  exact .node (by rw [e _ (Nat.le_refl _) (by omega)]; exact h) h1 h2 h3 h4 hk hs (Xh fun j a b=>e j (by omega) (by omega)) (Xi fun j a b=>e j (by omega) b)
theorem Sc {P:cZ} (hP:q9 P) {found:Bool} {ez:Int} (Lh:∀ e,iz P.aj.length 0 e→ko P e=true→found=true∧ez≤dv P.aj e):∀ (F k:Nat) (c0:List aG) (st:List Int),200+(P.aj.length - k)≤F→k≤P.aj.length→c0.length+2 ^ (P.aj.length+1 - k)≤1000000→ui P st→(∀ i,k≤i→i<P.aj.length→st[i]?=some (-1))→(∀ i,i<k→st[i]?=some 0 ∨ st[i]?=some 1) →
  cS (DU F (k:Int) c0 P st jw found ez) (fun z=>z.1=(c0.length:Int)∧z.2.2=st∧z.2.1.length<c0.length+2 ^ (P.aj.length+1 - k)∧(∀ j,j<c0.length→z.2.1[j]?=c0[j]?)∧Tree P found ez z.2.1 k c0.length z.2.1.length st):=by
 intro F
 have hn:=hP.n
 induction F with
 | zero=>intro k c0 st hF; omega
 | succ F ih =>
  intro k c0 st hF hk hb oH hun hde
  have agw:2≤2 ^ (P.aj.length+1 - k):=by
   have:2 ^ 1≤2 ^ (P.aj.length+1 - k):=Nat.pow_le_pow_right (by omega) (by omega)
   simpa using this
  unfold DU
  refine cS.bind (R4 hP (by omega) oH) fun r1 dI=>?_
  refine cS.ite (fun Wj=>?_) fun Wj=>?_
  ·refine cS.app (by simp; omega) ?_
   refine ⟨_,rfl,rfl,rfl,by simp; omega,fun j hj=>List.getElem?_append_left hj,?_⟩
   rcases dI with ⟨rfl,_⟩ | ⟨q,r,rfl,hq,hd⟩
   ·simp at Wj
   ·have:=Tree.leaf (P:=P) (found:=found) (ez:=ez) (ns:=c0++[aG.mk 2 0 0 0 (q:Int) 0 0]) (k:=k) (lo:=c0.length) (st:=st) (nd:=aG.mk 2 0 0 0 (q:Int) 0 0) (by simp) (.inl ⟨q,r,rfl,hq,hd⟩)
    simpa using this
  ·have Sf : ∀ r ∈ P.Rows, ¬ qm r st := by
    rcases dI with ⟨rfl,h⟩ | ⟨q,r,rfl,hq,hd⟩
    ·exact h
    ·exfalso; apply Wj; simp
   rw [OE hP (by omega) oH]
   simp only [Option.bind_some]
   refine cS.ite (fun hle=>?_) fun eO=>?_
   ·refine cS.app (by simp; omega) ?_
    refine ⟨_,rfl,rfl,rfl,by simp; omega,fun j hj=>List.getElem?_append_left hj,?_⟩
    have hlf : found = true ∧ ez ≤ jR tf P.aj st := by
     by_cases hkn:k=P.aj.length
     ·have ZS : ∀ t ∈ st, t = 0 ∨ t = 1 := fun t ht => by
       obtain ⟨i,hi⟩:=List.getElem?_of_mem ht
       have:=hde i (by rw [hkn,← oH.1]; exact (List.getElem?_eq_some_iff.1 hi).1)
       rw [hi] at this
       simpa using this
      have hls:=iU.self ZS
      have hm : ko P (IK 0 st) = true := (yW hP oH.1).2 fun r hr => by
       have h1:=hls.Zn r.bU
       have h2:=Sf r hr
       have h3:jR F4 r.bU st=jR tf r.bU st∧jR FD r.bU st=jR tf r.bU st:=by
        clear h1 h2
        have:∀ (l st:List Int),(∀ t ∈ st,t=0 ∨ t=1)→jR F4 l st=jR tf l st∧jR FD l st=jR tf l st:=by
         intro l
         induction l with
         | nil=>intro st _; simp [jR]
         | cons x l ih=>intro st h; cases st with
          | nil=>simp [jR]
          | cons s st =>
           have h1:=ih st fun t ht=>h t (List.mem_cons_of_mem _ ht)
           have h2:=h s (by simp)
           simp only [jR,h1.1,h1.2,F4,FD,tf]
           rcases h2 with rfl | rfl <;> simp
        exact this _ _ ZS
       unfold qm at h2
       omega
      have:=Lh _ (Hj st 0 _ (by rw [oH.1]; omega)) hm
      rw [Aj P.aj st 0 (by rw [oH.1]; omega),List.drop_zero] at this
      exact this
     ·simp only [Bool.or_eq_true,Bool.and_eq_true,decide_eq_true_eq,beq_iff_eq] at hle
      rcases hle with hle | hle
      ·exfalso; apply hkn; simp [oH.1] at hle; omega
      ·exact hle
    have:=Tree.leaf (P:=P) (found:=found) (ez:=ez) (ns:=c0++[jw]) (k:=k) (lo:=c0.length) (st:=st) (nd:=jw) (by simp) (.inr ⟨rfl,hlf⟩)
    simpa using this
   ·have Hy:k<P.aj.length:=by
     rcases Nat.lt_or_ge k P.aj.length with h | h
     ·exact h
     ·exfalso
      have:k=P.aj.length:=by omega
      subst this
      simp [oH.1] at eO
    have Hz:k<st.length:=by rw [oH.1]; exact Hy
    have hp2:2 ^ (P.aj.length+1 - k)=2 ^ (P.aj.length+1 - (k+1))+2 ^ (P.aj.length+1 - (k+1)):=by
     have:P.aj.length+1 - k=(P.aj.length+1 - (k+1))+1:=by omega
     rw [this,Nat.pow_succ]; omega
    have Ve:=hun k (Nat.le_refl _) Hy
    refine cS.app (by simp; omega) ?_
    refine cS.U1 Ve ?_
    rw [dt (by omega),Int.toNat_natCast]
    have acp:=oH.set k (v:=0) (by omega)
    have WS:∀ v:Int,∀ i,k+1≤i→i<P.aj.length→(st.set k v)[i]?=some (-1):=fun v i h1 h2=>by
     rw [List.getElem?_set_ne (by omega)]; exact hun i (by omega) h2
    have Wf:∀ v:Int,(v=0 ∨ v=1)→∀ i,i<k+1→(st.set k v)[i]?=some 0 ∨ (st.set k v)[i]?=some 1:=fun v hv i hi=>by
     by_cases Ls:i=k
     ·subst Ls; rw [List.getElem?_set_self Hz]; rcases hv with rfl | rfl <;> simp
     ·rw [List.getElem?_set_ne (Ne.symm Ls)]; exact hde i (by omega)
    refine cS.bind (ih (k+1) (c0++[aG.mk 1 (k:Int) 0 0 0 0 0]) (st.set k 0) (by omega) (by omega) (by simp only [List.length_append,List.length_cons,List.length_nil]; omega) acp (WS 0) (Wf 0 (.inl rfl))) fun z hz=>?_
    obtain ⟨z1,z2,z3⟩:=z
    obtain ⟨rfl,rfl,Jf,hzk,hzt⟩:=hz
    simp only [List.length_append,List.length_cons,List.length_nil] at Jf hzk hzt
    have Bn:=hzt.lt
    refine cS.U1 (x:=0) (by simp [Hz]) ?_
    simp only [List.set_set]
    have acq:=oH.set k (v:=1) (by omega)
    refine cS.bind (ih (k+1) z2 (st.set k 1) (by omega) (by omega) (by omega) acq (WS 1) (Wf 1 (.inr rfl))) fun w hw=>?_
    obtain ⟨w1,w2,w3⟩:=w
    obtain ⟨rfl,rfl,rL,WV,QJ⟩:=hw
    replace rL:w2.length<z2.length+2 ^ (P.aj.length+1 - (k+1)):=rL
    replace WV:∀ j,j<z2.length→w2[j]?=z2[j]?:=WV
    replace QJ:Tree P found ez w2 (k+1) z2.length w2.length (st.set k 1):=QJ
    have hw1:=QJ.lt
    refine cS.U1 (x:=1) (by simp [Hz]) ?_
    have FF:c0.length<w2.length:=by omega
    have hw0:w2[c0.length]?=some (aG.mk 1 (k:Int) 0 0 0 0 0):=by
     rw [WV _ (by omega),hzk _ (by omega)]; simp
    refine cS.U1 hw0 ?_
    simp only [Int.toNat_natCast]
    refine cS.U1 (x:=_) (List.getElem?_set_self FF) ?_
    refine ⟨_,rfl,rfl,?_,by simp only [List.length_set]; omega,fun j hj=>?_,?_⟩
    ·simp only [List.set_set]
     apply List.ext_getElem?
     intro i
     by_cases hi:i=k
     ·subst hi; rw [List.getElem?_set_self Hz,Ve]
     ·rw [List.getElem?_set_ne (Ne.symm hi)]
    ·show (w2.set c0.length _)[j]?=c0[j]?
     rw [List.getElem?_set_ne (by omega),WV _ (by omega),hzk _ (by omega),List.getElem?_append_left hj]
    ·simp only [List.set_set,List.length_set]
     have LC:∀ (v:aG) j,c0.length+1≤j→(w2.set c0.length v)[j]?=w2[j]?:=fun v j hj=>List.getElem?_set_ne (by omega)
     refine Tree.node (mid:=z2.length) (List.getElem?_set_self FF) rfl rfl (by simp) rfl Hy Ve ?_ ?_
     ·refine hzt.congr fun j h1 h2=>?_
      rw [LC _ _ h1,WV _ h2]
     ·refine QJ.congr fun j h1 h2=>?_
      rw [LC _ _ (by omega)]
end Go.Sh
namespace Go.Sh
open Go.L
theorem UX {st:List Int} {k:Nat} {v:Int} (h:st.length≤1000000) (hk:k<st.length):zo st (k:Int) v=some (st.set k v):=by
 unfold zo
 rw [dp (by simp; omega)]
 simp only [List.nil_append,Option.bind_some,cr (show st[k]?=some st[k] by simp [hk]),Int.toNat_natCast]
theorem HI {c i:Nat} {ns:List aG} {GQ:List Bool} (h1:i<c) (h2:c<ns.length) (h3:GQ[c]?=some false):zd (c:Int) (i:Int) ns GQ=some (true,GQ):=by
 unfold zd
 rw [if_pos (by simp; omega),if_pos (by simp; omega),cr h3]
 rfl
theorem Pk {P:cZ} {found:Bool} {ez:Int} {st:List Int} {nd:aG} (h:Fg P found ez st nd):(nd.Kind != 1)=true∧((Dy P nd).bind fun rj=>if (!rj)=true then (AU P nd).bind fun sa=>some (!sa) else some false)=some false:=by
 rcases h with ⟨k,r,rfl,hk,_⟩ | ⟨rfl,_⟩
 ·have:=(List.getElem?_eq_some_iff.1 hk).1
  refine ⟨rfl,?_⟩
  have e:Dy P (aG.mk 2 0 0 0 (k:Int) 0 0)=some true:=by simp [Dy]; omega
  rw [e]; rfl
 ·refine ⟨rfl,?_⟩
  have e:Dy P jw=some false:=by simp [Dy]
  have e1:AU P jw=some true:=by simp [AU]
  rw [e]; simp [e1]
def KK (P:cZ) (found:Bool) (ez:Int) (ns:List aG) (zR:List (List Int)) (j:Nat):Prop:=∃ s nd,zR[j]?=some s∧ns[j]?=some nd∧ui P s∧(nd.Kind=1 ∨ Fg P found ez s nd)
theorem NL {P:cZ} (hP:q9 P) {found:Bool} {ez:Int} {ns:List aG} (Ob:ns.length≤8191) {k lo hi:Nat} {st:List Int} (t:Tree P found ez ns k lo hi st):∀ (m:Nat) (zR:List (List Int)) (GQ:List Bool),zR.length=ns.length→GQ.length=ns.length→ui P st→zR[lo]?=some st→GQ[lo]?=some true→(∀ j,lo<j→j<hi→GQ[j]?=some false) →
  ∃ PV Ux,Kj P ns (m+(hi - lo)) (lo:Int) zR GQ=Kj P ns m (hi:Int) PV Ux∧PV.length=ns.length∧Ux.length=ns.length∧(∀ j,(j<lo ∨ hi≤j)→PV[j]?=zR[j]?∧Ux[j]?=GQ[j]?)∧(∀ j,lo≤j→j<hi→KK P found ez ns PV j):=by
 have hn:=hP.n
 induction t with
 | @leaf k lo st nd h hl =>
  intro m zR GQ h1 h2 oH h3 h4 h5
  have Jc:=(List.getElem?_eq_some_iff.1 h).1
  obtain ⟨e1,e2⟩:=Pk hl
  refine ⟨zR,GQ,?_,h1,h2,fun j _=>⟨rfl,rfl⟩,fun j a b=>?_⟩
  ·rw [show m+(lo+1 - lo)=m+1 by omega]
   simp only [Kj,JD,dM h,if_true,cr h,cr h4,Option.bind_some,Bool.not_true,Bool.false_eq_true,if_false,e1,e2,dt (show lo<1000000 by omega)]
  ·have:j=lo:=by omega
   subst this
   exact ⟨st,nd,h3,h,oH,.inr hl⟩
 | @node k lo mid hi st nd h k1 k2 k3 k4 hk hs t0 t1 Xh Xi =>
  intro m zR GQ h1 h2 oH h3 h4 h5
  have l0:=t0.lt; have l1:=t1.lt; have l2:=t1.le
  have Hz:k<st.length:=by rw [oH.1]; exact hk
  have hsl:st.length≤1000000:=by rw [oH.1]; omega
  have r1:=h5 (lo+1) (by omega) (by omega)
  have r2:=h5 mid (by omega) (by omega)
  let EI:=(zR.set (lo+1) (st.set k 0)).set mid (st.set k 1)
  let A1:=(GQ.set (lo+1) true).set mid true
  have step:∀ q,Kj P ns (q+1) (lo:Int) zR GQ=Kj P ns q ((lo+1:Nat):Int) EI A1:=by
   intro q
   have g1:(zR.set (lo+1) (st.set k 0))[lo]?=some st:=by rw [List.getElem?_set_ne (by omega),h3]
   have g2:(zR.set (lo+1) (st.set k 0))[mid]?=some (zR.set (lo+1) (st.set k 0))[mid]!:=by simp [show mid<zR.length by omega]
   have g3:(GQ.set (lo+1) true)[mid]?=some false:=by rw [List.getElem?_set_ne (by omega),r2]
   have g4:zR[lo+1]?=some zR[lo+1]!:=by simp [show lo+1<zR.length by omega]
   have e1:(nd.Kind != 1)=false:=by rw [k1]; rfl
   have e2:((((lo+1:Nat):Int)) == (mid:Int))=false:=by simp; omega
   have e3:decide ((k:Int)<0)=false:=by simp
   have e4:decide ((k:Int) ≥ (P.aj.length:Int))=false:=by simp; omega
   simp only [Kj,JD,dM h,if_true,cr h,cr h4,Option.bind_some,Bool.not_true,Bool.false_eq_true,if_false,e1,k2,k3,k4,HI (show lo<lo+1 by omega) (show lo+1<ns.length by omega) r1,HI (show lo<mid by omega) (show mid<ns.length by omega) r2,e2,e3,e4,cr h3,cr hs,bne_self_eq_false,UX hsl Hz,cr g4,cr r1,Int.toNat_natCast,cr g1,cr g2,cr g3,dt (show lo<1000000 by omega)]
   rfl
  have la1:EI.length=ns.length:=by simp [EI,h1]
  have la2:A1.length=ns.length:=by simp [A1,h2]
  obtain ⟨sB,rB,eB,b1,b2,b3,b4⟩:=Xh (m+(hi - mid)) EI A1 la1 la2 (oH.set k (v:=0) (by omega)) (by simp only [EI]; rw [List.getElem?_set_ne (by omega),List.getElem?_set_self (by omega)]) (by simp only [A1]; rw [List.getElem?_set_ne (by omega),List.getElem?_set_self (by omega)])
   (fun j a b=>by simp only [A1]; rw [List.getElem?_set_ne (by omega),List.getElem?_set_ne (by omega)]; exact h5 j (by omega) (by omega))
  obtain ⟨sC,rC,eC,c1,c2,c3,c4⟩:=Xi m sB rB b1 b2 (oH.set k (v:=1) (by omega)) (by rw [(b3 mid (by omega)).1]; simp only [EI]; rw [List.getElem?_set_self (by simp; omega)]) (by rw [(b3 mid (by omega)).2]; simp only [A1]; rw [List.getElem?_set_self (by simp; omega)])
   (fun j a b=>by rw [(b3 j (by omega)).2]; simp only [A1]; rw [List.getElem?_set_ne (by omega),List.getElem?_set_ne (by omega)]; exact h5 j (by omega) (by omega))
  refine ⟨sC,rC,?_,c1,c2,fun j hj=>?_,fun j a b=>?_⟩
  ·rw [show m+(hi - lo)=m+(hi - mid)+(mid - (lo+1))+1 by omega,step,eB,eC]
  ·have q1:=c3 j (by omega)
   have q2:=b3 j (by omega)
   rw [q1.1,q1.2,q2.1,q2.2]
   simp only [EI,A1]
   rw [List.getElem?_set_ne (by omega),List.getElem?_set_ne (by omega),List.getElem?_set_ne (by omega),List.getElem?_set_ne (by omega)]
   exact ⟨rfl,rfl⟩
  ·by_cases hm:mid≤j
   ·exact c4 j hm b
   ·by_cases hl:lo+1≤j
    ·obtain ⟨s,n0,x1,x2,x3,x4⟩:=b4 j hl (by omega)
     exact ⟨s,n0,by rw [(c3 j (by omega)).1,x1],x2,x3,x4⟩
    ·have:j=lo:=by omega
     subst this
     refine ⟨st,nd,?_,h,oH,.inl k1⟩
     rw [(c3 j (by omega)).1,(b3 j (by omega)).1]
     simp only [EI]
     rw [List.getElem?_set_ne (by omega),List.getElem?_set_ne (by omega),h3]
theorem NK {F:Nat} {P:cZ} (hP:q9 P) (hF:9000<F) {found:Bool} {ez:Int} {ns:List aG} (Ob:ns.length≤8191) (t:Tree P found ez ns 0 0 ns.length (List.replicate P.aj.length (-1))) :
  cS (DL F P ns) (fun z=>z.2=0∧∀ j,j<ns.length→KK P found ez ns z.1 j):=by
 have hn:=hP.n
 have hl:=t.lt
 unfold DL
 rw [kL hP (by omega)]
 simp only [Option.bind_some,Bool.not_true,Bool.false_eq_true,if_false]
 rw [if_neg (by simp; omega),if_neg (by simp; intro h; rw [h] at hl; simp at hl)]
 have e:Es (-1) (P.aj.length:Int)=some (List.replicate P.aj.length (-1)):=by
  unfold Es; rw [if_pos ⟨by omega,by omega⟩]; simp
 rw [k7 (by omega),k7 (by omega),e]
 simp only [Option.bind_some]
 have i1:idx (List.replicate ns.length ([]:List Int)) 0=some []:=cr (i:=0) (by simp [hl])
 have i2:idx (List.replicate ns.length false) 0=some false:=cr (i:=0) (by simp [hl])
 rw [i1,i2]
 simp only [Option.bind_some]
 obtain ⟨sC,rC,eC,c1,c2,c3,c4⟩:=NL hP Ob t (F - ns.length) ((List.replicate ns.length ([]:List Int)).set 0 (List.replicate P.aj.length (-1))) ((List.replicate ns.length false).set 0 true) (by simp) (by simp) ⟨by simp,fun x hx=>by have:=(List.mem_replicate.1 hx).2; omega⟩ (by rw [List.getElem?_set_self (by simpa using hl)]) (by rw [List.getElem?_set_self (by simpa using hl)])
  (fun j a b=>by rw [List.getElem?_set_ne (by omega)]; simp [b])
 rw [show F - ns.length+(ns.length - 0)=F by omega] at eC
 refine ⟨(sC,0),?_,rfl,fun j hj=>c4 j (by omega) hj⟩
 show Kj P ns F ((0:Nat):Int) _ _=_
 refine eC.trans ?_
 cases hq:F - ns.length with
 | zero=>omega
 | succ q=>simp only [Kj,JD,dL,Bool.false_eq_true,if_false]
theorem Tree.found {P:cZ} (hP:q9 P) {found:Bool} {ez:Int} {ns:List aG} {fu:List Int} (hm:∀ r ∈ P.Rows,r.bE≤jR tf r.bU fu∧jR tf r.bU fu≤r.cX) {k lo hi:Nat} {st:List Int} (t:Tree P found ez ns k lo hi st):iU st fu→∃ j nd,j<ns.length∧ns[j]?=some nd∧nd.Kind=3:=by
 induction t with
 | @leaf k lo st nd h hl =>
  intro hr
  rcases hl with ⟨q,r,rfl,hq,hd⟩ | ⟨rfl,_⟩
  ·exfalso
   have h1:=hr.Zn r.bU
   have h2:=hm r (List.mem_of_getElem? hq)
   unfold qm at hd
   omega
  ·exact ⟨lo,_,(List.getElem?_eq_some_iff.1 h).1,h,rfl⟩
 | @node k lo mid hi st nd h k1 k2 k3 k4 hk hs t0 t1 Xh Xi =>
  intro hr
  obtain ⟨t,ht,ZS⟩:=hr.get hs
  rcases ZS with rfl | rfl
  ·exact Xh (hr.set ht)
  ·exact Xi (hr.set ht)
theorem M6 {F:Nat} {P:cZ} (hP:q9 P) (hF:9000<F) {found:Bool} {ez:Int} {ns:List aG} (Ob:ns.length≤8191) (t:Tree P found ez ns 0 0 ns.length (List.replicate P.aj.length (-1))) (h3:∃ j nd,j<ns.length∧ns[j]?=some nd∧nd.Kind=3) :
  cS (DK F P ns) (fun z=>z.2.2=0∧z.2.1=true∧ez≤z.1):=by
 unfold DK
 refine cS.bind (NK hP hF Ob t) fun r1 dI=>?_
 obtain ⟨zR,er⟩:=r1
 obtain ⟨rfl,Si⟩:=dI
 rw [if_neg (by simp)]
 refine ca (a:=ns) (L:=fun n i (s:Int × Bool)=>Gv F P ns (zR,0) n s.1 s.2 i) (fun i s=>(s.2=true→ez≤s.1)∧((∃ j nd,j<i∧ns[j]?=some nd∧nd.Kind=3)→s.2=true)) (fun n i nd s hx hI=>.inr ?_) (fun n s hI=>?_) (by omega) (s0:=((0:Int),false)) ⟨fun h=>(by cases h),fun ⟨j,_,h,_⟩=>by omega⟩
 ·have hi:i<ns.length:=(List.getElem?_eq_some_iff.1 hx).1
  obtain ⟨st,nd',x1,x2,x3,x4⟩:=Si i hi
  rw [hx] at x2; cases x2
  have back:∀ {b:Bool},(nd.Kind=3→b=true)→(s.2=true→b=true)→(∃ j nd,j<i+1∧ns[j]?=some nd∧nd.Kind=3)→b=true:=fun hb hb2 ⟨j,n0,y1,y2,y3⟩=>by
   by_cases hj:j=i
   ·subst hj; rw [hx] at y2; cases y2; exact hb y3
   ·exact hb2 (hI.2 ⟨j,n0,by omega,y2,y3⟩)
  simp only [Gv,CT,dM hx,if_true,cr hx,Option.bind_some,dt (show i<1000000 by omega)]
  rcases x4 with x4 | ⟨q,r,rfl,hq,hd⟩ | ⟨rfl,hf,hb⟩
  ·have e2:(nd.Kind == 2)=false:=by rw [x4]; rfl
   have e3:(nd.Kind == 3)=false:=by rw [x4]; rfl
   simp only [e2,e3,Bool.false_eq_true,if_false]
   exact ⟨s,rfl,hI.1,back (fun h=>(by rw [x4] at h; cases h)) (fun h=>h)⟩
  ·simp only [show ((2:Int) == 2)=true from rfl,if_true,cr hq,cr x1,Option.bind_some,NJ (F:=F) hP (by omega) x3 (List.mem_of_getElem? hq)]
   rw [if_neg (by unfold qm at hd; simp; omega)]
   exact ⟨s,rfl,hI.1,back (fun h=>(by cases h)) (fun h=>h)⟩
  ·simp only [show ((3:Int) == 2)=false from rfl,show ((3:Int) == 3)=true from rfl,Bool.false_eq_true,if_false,if_true,cr x1,Option.bind_some,yG (F:=F) hP (by omega) x3]
   by_cases h9:(!s.2 || decide (jR tf P.aj st<s.1))=true
   ·rw [if_pos h9]; exact ⟨(_,true),rfl,fun _=>hb,fun _=>rfl⟩
   ·rw [if_neg h9]
    simp at h9
    exact ⟨s,rfl,hI.1,fun _=>h9.1⟩
 ·simp only [Gv,CT,dL,Bool.false_eq_true,if_false]
  have:=hI.2 h3
  exact ⟨_,rfl,rfl,this,hI.1 this⟩
end Go.Sh
namespace Go.Sh
open Go.L
theorem R2 {F:Nat} {P:cZ} (hP:q9 P) (hF:300<F) {found:Bool} {ez:Int} (Lh:∀ e,iz P.aj.length 0 e→ko P e=true→found=true∧ez≤dv P.aj e) :
  cS (C5 F P found ez) (fun ns=>ns.length≤8191∧Tree P found ez ns 0 0 ns.length (List.replicate P.aj.length (-1))):=by
 unfold C5
 have hn:=hP.n
 have e:Es (-1) (P.aj.length:Int)=some (List.replicate P.aj.length (-1)):=by
  unfold Es; rw [if_pos ⟨by omega,by omega⟩]; simp
 rw [e]
 simp only [Option.bind_some]
 have hp:2 ^ (P.aj.length+1 - 0)≤2 ^ 13:=Nat.pow_le_pow_right (by omega) (by omega)
 refine cS.bind (Sc hP Lh F 0 [] _ (by omega) (by omega) (by simp only [List.length_nil]; omega) ⟨by simp,fun x hx=>by have:=(List.mem_replicate.1 hx).2; omega⟩ (fun i _ hi=>by simp [hi]) (fun i hi=>by omega)) fun z hz=>?_
 obtain ⟨z1,z2,z3⟩:=z
 obtain ⟨_,_,h3,_,h5⟩:=hz
 refine ⟨_,rfl,?_,h5⟩
 simp only [List.length_nil] at h3
 show z2.length≤8191
 have:z2.length<0+2 ^ (P.aj.length+1 - 0):=h3
 omega
theorem iz.uj {n:Nat}:∀ {c:List Int} {k i:Nat} {x:Int},iz n k c→c[i]?=some x→∃ j:Nat,x=(j:Int)∧k≤j∧j<n∧iz n (j+1) (c.drop (i+1))
 | [],k,i,x,_,h=>by simp at h
 | y :: c,k,0,x,⟨j,h0,h1,h2,h3⟩,h=>by simp at h; subst h; exact ⟨j,h0,h1,h2,by simpa using h3⟩
 | y :: c,k,i+1,x,⟨j,h0,h1,h2,h3⟩,h=>by
  obtain ⟨j',a,b,d,e⟩:=h3.uj (i:=i) (by simpa using h)
  exact ⟨j',a,by omega,d,by simpa using e⟩
theorem iz.prev {n:Nat} {c:List Int} {k i:Nat} {x y:Int} (h:iz n k c) (hx:c[i]?=some x) (hy:c[i+1]?=some y):x<y:=by
 obtain ⟨j,rfl,_,_,h4⟩:=h.uj hx
 have e:(c.drop (i+1))[0]?=some y:=by simpa using hy
 obtain ⟨j',rfl,h5,_⟩:=h4.uj e
 omega
theorem wa {F n:Nat} {c:List Int} (h:iz n 0 c) (hn:n≤12) (hF:100<F):GJ F c (n:Int)=some true:=by
 have hl:=h.len (by omega)
 have key:cS (GJ F c (n:Int)) (fun z=>z=true):=by
  unfold GJ
  refine ca (a:=c) (L:=fun m i (_:Unit)=>Gp c (n:Int) m i) (fun _ _=>True) (fun m i x s hx _=>.inr ⟨(),?_,trivial⟩) (fun m s _=>?_) (by omega) (s0:=()) trivial
  ·obtain ⟨j,rfl,_,h2,_⟩:=h.uj hx
   have hi:i<c.length:=(List.getElem?_eq_some_iff.1 hx).1
   have e1:decide ((j:Int)<0)=false:=by simp
   have e2:decide ((j:Int) ≥ (n:Int))=false:=by simp; omega
   simp only [Gp,CJ,dM hx,if_true,cr hx,Option.bind_some,e1,e2,Bool.false_eq_true,if_false,dt (show i<1000000 by omega)]
   cases i with
   | zero=>rfl
   | succ i =>
    have hy:c[i]?=some c[i]:=by simp
    have:=h.prev hy hx
    rw [if_pos (by simp),show i64 (((i+1:Nat):Int) - 1)=(i:Int) by rw [bR (by omega) (by omega)]; omega,cr hy]
    have e3:decide (c[i] ≥ (j:Int))=false:=by simp; omega
    simp only [Option.bind_some,e3,Bool.false_eq_true,if_false]
  ·simp only [Gp,CJ,dL,Bool.false_eq_true,if_false]
   exact ⟨_,rfl,rfl⟩
 obtain ⟨z,hz,rfl⟩:=key
 exact hz
theorem JU (l:List Int) {c:List Int} {i:Nat} {x:Int} (h:c[i]?=some x):dv l (c.take (i+1))=dv l (c.take i)+oZ l x:=by
 rw [List.take_add_one,h,Option.toList_some,si]
theorem zT {F n:Nat} {l c:List Int} (h:iz n 0 c) (hn:n≤12) (hl:l.length=n) (hs:Small l) (hF:100<F):wL F l c=some (dv l c):=by
 have hcl:=h.len (by omega)
 have key:cS (wL F l c) (fun z=>z=dv l c):=by
  unfold wL
  refine ca (a:=c) (L:=fun m i (s:Int)=>Gu l c m s i) (fun i s=>s=dv l (c.take i)) (fun m i x s hx FT=>.inr ⟨_,?_,(JU l hx).symm⟩) (fun m s FT=>?_) (by omega) rfl
  ·subst FT
   obtain ⟨j,rfl,_,h2,_⟩:=h.uj hx
   have hi:i<c.length:=(List.getElem?_eq_some_iff.1 hx).1
   have hj:l[j]?=some (oZ l (j:Int)):=by simp [oZ,List.getD,hl,h2]
   have b1:=lk hs (c.take i)
   have b2:=sO hs (j:Int)
   have b3:(c.take i).length≤12:=by simp; omega
   simp only [Gu,CQ,dM hx,if_true,cr hx,cr hj,Option.bind_some,dt (show i<1000000 by omega)]
   rw [bR (by omega) (by omega)]
  ·subst FT
   simp only [Gu,CQ,dL,Bool.false_eq_true,if_false]
   exact ⟨_,rfl,by simp⟩
 obtain ⟨z,hz,rfl⟩:=key
 exact hz
theorem Pm {F:Nat} {P:cZ} {c:List Int} (hP:q9 P) (hF:100<F) (h:iz P.aj.length 0 c) (hm:ko P c=true):DZ F P c=some true:=by
 have hn:=hP.n; have hr:=hP.m
 unfold DZ
 rw [kL hP hF]
 simp only [Option.bind_some,Bool.not_true,Bool.false_eq_true,if_false,wa h hn hF]
 have:=gF (a:=P.Rows) (L:=GH F P c) (F:=F) (fun _ r=>(.none:Option Bool)) true (by omega) (fun n k r hk hi=>?_) (fun n=>?_) (by omega)
 ·rw [this]
  congr 1
  have key:∀ (l:List ar) (i:Nat),scan (fun _ _=>(.none:Option Bool)) true i l=true:=by
   intro l
   induction l with
   | nil=>intro i; rfl
   | cons x l ih=>intro i; exact ih (i+1)
  exact key _ _
 ·have eP:=List.mem_of_getElem? hk
  have e:=List.all_eq_true.1 hm r eP
  simp only [Bool.not_eq_true'] at e
  simp only [GH,C9,dM hk,if_true,cr hk,Option.bind_some,dt hi,zT (F:=F) h hn (hP.l r eP) (hP.s r eP) hF,e,Bool.false_eq_true,if_false]
 ·simp only [GH,C9,dL,Bool.false_eq_true,if_false]
theorem R3 {F:Nat} {P:cZ} {c:List Int} (hP:q9 P) (hF:100<F) (h:iz P.aj.length 0 c):D4 F P c=some (dv P.aj c,true):=by
 unfold D4
 rw [kL hP hF]
 simp only [Option.bind_some,Bool.not_true,Bool.false_eq_true,if_false,wa h hP.n hF,zT (F:=F) h hP.n rfl hP.cs hF]
theorem PS {F:Nat} {P:cZ} (hP:q9 P) (hF:9000<F) :
  cS (D1 F P) (fun z=>z.2=0∧(z.1.Found=true→Good P z.1∧∀ F',9000<F'→wY F' P z.1=some 0)):=by
 unfold D1
 rw [kL hP (by omega)]
 simp only [Option.bind_some,Bool.not_true,Bool.false_eq_true,if_false]
 refine cS.bind (R6 hP (by omega) rfl) fun pl yN=>?_
 refine cS.bind (R2 hP (by omega) yN.2.1) fun ns Ob=>?_
 refine ⟨_,rfl,rfl,fun hf=>?_⟩
 replace hf:pl.Found=true:=hf
 have hg:=yN.1 hf
 refine ⟨hg,fun F' ZU=>?_⟩
 obtain ⟨fu,f1,f2,f3⟩:=Fo P.aj.length 0 _ pl.cT (by omega) hg.1
 have hm:=hg.2.1
 rw [← f3] at hm
 have h3:=Ob.2.found hP ((yW hP f1).1 hm) (by rw [← f1]; exact iU.root f2)
 obtain ⟨z,hz,Bn,Jf,hz3⟩:=M6 hP ZU Ob.1 Ob.2 h3
 unfold wY
 rw [kL hP (by omega)]
 simp only [Option.bind_some,Bool.not_true,Bool.false_eq_true,if_false,hf,if_true,R3 hP (show 100<F' by omega) hg.1,Pm hP (show 100<F' by omega) hg.1 hg.2.1,hg.2.2,bne_self_eq_false]
 unfold Dp
 simp only [hz,Option.bind_some,Bn,Jf,hf,Bool.not_true,if_true,bne_self_eq_false,Bool.false_eq_true,if_false,Bool.false_or,Bool.false_and,Bool.or_false]
 rw [← hg.2.2,if_neg (by simp; omega)]
end Go.Sh
namespace Go.Sh
open Go.L
abbrev sg (n:Nat) (a v:Int):ar:=ar.mk ((List.replicate n 0).set a.toNat 1) v v
theorem Ey {n a:Nat} {v:Int} (hn:n≤12) (ha:a<n):zp (n:Int) (a:Int) v=some (sg n (a:Int) v):=by
 unfold zp
 rw [k7 (by omega)]
 simp only [Option.bind_some,cr (show (List.replicate n (0:Int))[a]?=some 0 by simp [ha])]
theorem VP {F:Nat} {l:List Int} {v:Int} (hb:l.length<1000000) (hF:l.length<F):AS F l v=some (decide (v ∈ l)):=by
 have key:cS (y9 F l v) (fun z=>decide (z ≥ 0)=decide (v ∈ l)):=by
  unfold y9
  refine ca (a:=l) (L:=fun n i (_:Unit)=>Nq l v n i) (fun i _=>v ∉ l.take i) (fun n i x s hx hI=>?_) (fun n s hI=>?_) hF (s0:=()) (by simp)
  ·have hi:i<l.length:=(List.getElem?_eq_some_iff.1 hx).1
   simp only [Nq,Gk,dM hx,if_true,cr hx,Option.bind_some,dt (show i<1000000 by omega)]
   by_cases hv:(v == x)=true
   ·rw [if_pos hv]
    have e:v=x:=by simpa using hv
    exact .inl ⟨_,rfl,by rw [e]; simp [List.mem_of_getElem? hx]⟩
   ·rw [if_neg hv]
    refine .inr ⟨(),rfl,fun hm=>?_⟩
    rw [List.take_add_one,hx,Option.toList_some,List.mem_append] at hm
    rcases hm with hm | hm
    ·exact hI hm
    ·simp at hm; apply hv; simp [hm]
  ·simp only [Nq,Gk,dL,Bool.false_eq_true,if_false]
   rw [List.take_length] at hI
   exact ⟨_,rfl,by simp [hI]⟩
 obtain ⟨z,hz,h⟩:=key
 unfold AS
 rw [hz,Option.bind_some,h]
theorem nJ {F n:Nat} {c:List Int} (h:iz n 0 c) (hn:n≤12) (hF:100<F):AX F c (n:Int)=some true:=by
 have hl:=h.len (by omega)
 have key:cS (AX F c (n:Int)) (fun z=>z=true):=by
  unfold AX
  refine ca (a:=c) (L:=fun m i (_:Unit)=>GA c (n:Int) m i) (fun _ _=>True) (fun m i x s hx _=>.inr ⟨(),?_,trivial⟩) (fun m s _=>?_) (by omega) (s0:=()) trivial
  ·obtain ⟨j,rfl,_,h2,_⟩:=h.uj hx
   have hi:i<c.length:=(List.getElem?_eq_some_iff.1 hx).1
   have e1:decide ((j:Int)<0)=false:=by simp
   have e2:decide ((j:Int) ≥ (n:Int))=false:=by simp; omega
   simp only [GA,CY,dM hx,if_true,cr hx,Option.bind_some,e1,e2,Bool.false_eq_true,if_false,dt (show i<1000000 by omega)]
   cases i with
   | zero=>rfl
   | succ i =>
    have hy:c[i]?=some c[i]:=by simp
    have:=h.prev hy hx
    rw [if_pos (by simp),show i64 (((i+1:Nat):Int) - 1)=(i:Int) by rw [bR (by omega) (by omega)]; omega,cr hy]
    have e3:decide (c[i] ≥ (j:Int))=false:=by simp; omega
    simp only [Option.bind_some,e3,Bool.false_eq_true,if_false]
  ·simp only [GA,CY,dL,Bool.false_eq_true,if_false]
   exact ⟨_,rfl,rfl⟩
 obtain ⟨z,hz,rfl⟩:=key
 exact hz
def lM (P:cZ) (an us:List Int):cZ:=cZ.mk P.aj (P.Rows++an.map (sg P.aj.length · 1)++(us.filter fun u=>!decide (u ∈ an)).map (sg P.aj.length · 0))
theorem GW {F:Nat} {P:cZ} {an us:List Int} (hP:q9 P) (ha:iz P.aj.length 0 an) (hu:iz P.aj.length 0 us) (hF:1000<F) (hR:P.Rows.length+an.length+us.length≤60):zh F P an us=some (lM P an us,0):=by
 have hn:=hP.n
 have ya:=ha.len (by omega); have rJ:=hu.len (by omega)
 have key : cS (zh F P an us) (fun z => z = (lM P an us, 0)) := by
  unfold zh
  rw [kL hP (by omega)]
  simp only [Option.bind_some,Bool.not_true,Bool.false_eq_true,if_false,nJ (F:=F) ha hn (by omega),nJ (F:=F) hu hn (by omega)]
  rw [dp (by simp; omega)]
  simp only [List.nil_append,Option.bind_some]
  refine ca (a:=P.Rows) (L:=fun m i (l:List ar)=>Gx F P an us P.aj m i l) (fun i l=>l=P.Rows.take i) (fun m i r l hr hl=>.inr ?_) (fun m l hl=>?_) (by omega) rfl
  ·subst hl
   have hi:i<P.Rows.length:=(List.getElem?_eq_some_iff.1 hr).1
   have hc:r.bU.length≤12:=by rw [hP.l r (List.mem_of_getElem? hr)]; exact hn
   simp only [Gx,CV,dM hr,if_true,cr hr,Option.bind_some,dt (show i<1000000 by omega)]
   rw [dp (by simp; omega)]
   simp only [List.nil_append,Option.bind_some]
   rw [dp (by simp; omega)]
   exact ⟨_,rfl,by rw [List.take_add_one,hr]; rfl⟩
  ·subst hl
   simp only [Gx,CV,dL,Bool.false_eq_true,if_false,List.take_length]
   refine ca (a:=an) (L:=fun m i (l:List ar)=>Gy F P an us P.aj m i l) (fun i l=>l=P.Rows++(an.take i).map (sg P.aj.length · 1)) (fun m i x l hx hl=>.inr ?_) (fun m l hl=>?_) (by omega) (by simp)
   ·subst hl
    obtain ⟨j,rfl,_,h2,_⟩:=ha.uj hx
    have hi:i<an.length:=(List.getElem?_eq_some_iff.1 hx).1
    simp only [Gy,CW,dM hx,if_true,cr hx,Option.bind_some,dt (show i<1000000 by omega),Ey (v:=1) hn h2]
    rw [dp (by simp; omega)]
    exact ⟨_,rfl,by rw [List.take_add_one,hx]; simp⟩
   ·subst hl
    simp only [Gy,CW,dL,Bool.false_eq_true,if_false,List.take_length]
    refine ca (a:=us) (L:=fun m i (l:List ar)=>Gz F P an us P.aj m i l) (fun i l=>l=P.Rows++an.map (sg P.aj.length · 1)++((us.take i).filter fun u=>!decide (u ∈ an)).map (sg P.aj.length · 0)) (fun m i x l hx hl=>.inr ?_) (fun m l hl=>?_) (by omega) (by simp)
    ·subst hl
     obtain ⟨j,rfl,_,h2,_⟩:=hu.uj hx
     have hi:i<us.length:=(List.getElem?_eq_some_iff.1 hx).1
     simp only [Gz,CX,dM hx,if_true,cr hx,Option.bind_some,dt (show i<1000000 by omega),VP (F:=F) (l:=an) (v:=(j:Int)) (by omega) (by omega),Ey (v:=0) hn h2]
     by_cases hm:(j:Int) ∈ an
     ·simp only [hm,decide_true,Bool.not_true,Bool.false_eq_true,if_false]
      exact ⟨_,rfl,by rw [List.take_add_one,hx]; simp [List.filter_append,hm]⟩
     ·simp only [hm,decide_false,Bool.not_false,if_true]
      have Bf:=List.length_filter_le (fun u=>!decide (u ∈ an)) (us.take i)
      rw [dp (by simp at Bf ⊢; omega)]
      exact ⟨_,rfl,by rw [List.take_add_one,hx]; simp [List.filter_append,hm]⟩
    ·subst hl
     have Bf:=List.length_filter_le (fun u=>!decide (u ∈ an)) us
     simp only [Gz,CX,dL,Bool.false_eq_true,if_false,List.take_length]
     rw [if_neg (by simp at Bf ⊢; omega)]
     exact ⟨_,rfl,rfl⟩
 obtain ⟨z,hz,rfl⟩:=key
 exact hz
theorem JL {P:cZ}:lM P [] []=P:=by simp [lM]
theorem Nv {P:cZ} {an us:List Int} (hP:q9 P) (hR:P.Rows.length+an.length+us.length≤60):q9 (lM P an us):=by
 have hn:=hP.n
 have row:∀ r ∈ (lM P an us).Rows,r ∈ P.Rows ∨ ∃ a v,r=sg P.aj.length a v∧(v=0 ∨ v=1):=by
  intro r hr
  simp only [lM,List.mem_append,List.mem_map] at hr
  rcases hr with (hr | ⟨a,_,rfl⟩) | ⟨a,_,rfl⟩
  ·exact .inl hr
  ·exact .inr ⟨a,1,rfl,.inr rfl⟩
  ·exact .inr ⟨a,0,rfl,.inl rfl⟩
 refine ⟨hn,?_,hP.c,fun r hr=>?_,fun r hr=>?_,fun r hr=>?_⟩
 ·have Bf:=List.length_filter_le (fun u=>!decide (u ∈ an)) us
  simp only [lM,List.length_append,List.length_map]; omega
 ·rcases row r hr with h | ⟨a,v,rfl,_⟩
  ·exact hP.l r h
  ·show ((List.replicate P.aj.length (0:Int)).set a.toNat 1).length=_
   simp [lM]
 ·rcases row r hr with h | ⟨a,v,rfl,_⟩
  ·exact hP.s r h
  ·intro x hx
   rcases List.mem_or_eq_of_mem_set hx with h | h
   ·have:=(List.mem_replicate.1 h).2; omega
   ·omega
 ·rcases row r hr with h | ⟨a,v,rfl,hv⟩
  ·exact hP.b r h
  ·show -1000000≤v∧v≤1000000∧-1000000≤v∧v≤1000000
   omega
theorem xK {n a:Nat} (ha:a<n):∀ {c:List Int} {k:Nat},iz n k c→dv ((List.replicate n 0).set a 1) c=if (a:Int) ∈ c then 1 else 0
 | [],_,_=>by simp [dv]
 | x :: c,k,⟨j,h0,h1,h2,h3⟩=>by
  subst h0
  have ih:=xK ha h3
  have e:oZ ((List.replicate n (0:Int)).set a 1) (j:Int)=if j=a then 1 else 0:=by
   simp only [oZ,Int.toNat_natCast,List.getD_eq_getElem?_getD]
   by_cases hj:j=a
   ·subst hj; rw [List.getElem?_set_self (by simpa using ha)]; simp
   ·rw [List.getElem?_set_ne (Ne.symm hj)]; simp [h2,hj]
  simp only [dv,e,ih]
  by_cases hj:j=a
  ·subst hj
   have:(j:Int) ∉ c:=fun hm=>by obtain ⟨j',e1,e2,_⟩:=h3.mem _ hm; omega
   simp [this]
  ·have:¬ (a:Int)=(j:Int):=by omega
   simp [hj,this]
theorem GV {P:cZ} {an us c:List Int} (ha:iz P.aj.length 0 an) (hu:iz P.aj.length 0 us) (hc:iz P.aj.length 0 c) (hm:ko (lM P an us) c=true):ko P c=true∧(∀ a ∈ an,a ∈ c)∧∀ u ∈ us,u ∉ an→u ∉ c:=by
 have h:=List.all_eq_true.1 hm
 refine ⟨List.all_eq_true.2 fun r hr=>h r (by simp [lM,hr]),fun a hA=>?_,fun u hU hn U8=>?_⟩
 ·obtain ⟨j,rfl,_,hj⟩:=ha.mem a hA
  have:=h (sg P.aj.length (j:Int) 1) (by simp only [lM,List.mem_append,List.mem_map]; exact .inl (.inr ⟨_,hA,rfl⟩))
  simp only [Int.toNat_natCast,xK hj hc] at this
  by_cases hi:(j:Int) ∈ c
  ·exact hi
  ·simp [hi] at this
 ·obtain ⟨j,rfl,_,hj⟩:=hu.mem u hU
  have:=h (sg P.aj.length (j:Int) 0) (by simp only [lM,List.mem_append,List.mem_map]; exact .inr ⟨_,List.mem_filter.2 ⟨hU,by simp [hn]⟩,rfl⟩)
  simp only [Int.toNat_natCast,xK hj hc,U8,if_true] at this
  simp at this
end Go.Sh
namespace Go.Sh
open Go.L Go.Lib
theorem Mz {zs:List Int} (h:zs.Pairwise (·≤·)) {i j:Nat} {x y:Int} (ra:i≤j) (hx:zs[i]?=some x) (hy:zs[j]?=some y):x≤y:=by
 obtain ⟨h1,rfl⟩:=List.getElem?_eq_some_iff.1 hx
 obtain ⟨h2,rfl⟩:=List.getElem?_eq_some_iff.1 hy
 rcases Nat.lt_or_eq_of_le ra with h3 | rfl
 ·exact List.pairwise_iff_getElem.1 h i j h1 h2 h3
 ·exact Int.le_refl _
theorem Ag {zs:List Int} {j:Nat} (h:j<zs.length):zs.toArray[j]! = zs[j]:=by simp [h]
theorem BN (zs:List Int) (x:Int):x ∈ Lib.compact zs ↔ x ∈ zs:=by
 unfold Lib.compact compactUpTo
 simp only [List.mem_map,List.mem_filter,List.mem_range]
 constructor
 ·rintro ⟨j,⟨hj,_⟩,rfl⟩
  rw [Ag hj]; exact List.getElem_mem hj
 ·intro hx
  have:∀ j,(h:j<zs.length)→∃ i,i<zs.length∧keeps zs.toArray i=true∧zs.toArray[i]! = zs[j]:=by
   intro j
   induction j with
   | zero=>intro h; exact ⟨0,h,by simp [keeps],Ag h⟩
   | succ j ih =>
    intro h
    by_cases he:zs[j+1]=zs[j]
    ·obtain ⟨i,a,b,c⟩:=ih (by omega)
     exact ⟨i,a,b,by rw [c,he]⟩
    ·refine ⟨j+1,h,?_,Ag h⟩
     simp only [keeps,decide_eq_true_eq]
     right
     rw [Ag h,Nat.add_sub_cancel,Ag (show j<zs.length by omega)]
     exact he
  obtain ⟨j,hj,rfl⟩:=List.getElem_of_mem hx
  obtain ⟨i,a,b,c⟩:=this j hj
  exact ⟨i,⟨a,b⟩,c⟩
theorem Fs {zs:List Int} (h:zs.Pairwise (·≤·)):(Lib.compact zs).Pairwise (·<·):=by
 unfold Lib.compact compactUpTo
 rw [List.pairwise_map]
 refine List.Pairwise.imp_of_mem (R:=(·<·)) ?_ (List.pairwise_lt_range.filter _)
 intro a b ha hb qo
 simp only [List.mem_filter,List.mem_range,keeps,decide_eq_true_eq] at ha hb
 rw [Ag ha.1,Ag hb.1]
 have eO:zs[b] ≠ zs[b - 1]:=by
  obtain ⟨OQ,hb2⟩:=hb
  rcases hb2 with h | h
  ·omega
  ·intro e; apply h; rw [Ag OQ,Ag (by omega)]; exact e
 have h1:=Mz h (i:=a) (j:=b - 1) (by omega) (List.getElem?_eq_getElem ha.1) (List.getElem?_eq_getElem (by omega))
 have h2:=Mz h (i:=b - 1) (j:=b) (by omega) (List.getElem?_eq_getElem (by omega)) (List.getElem?_eq_getElem hb.1)
 omega
theorem Fi {n:Nat}:∀ {c:List Int} {k:Nat},c.Pairwise (·<·)→(∀ x ∈ c,∃ j:Nat,x=(j:Int)∧k≤j∧j<n)→iz n k c
 | [],_,_,_=>trivial
 | x :: c,k,h,hm=>by
  obtain ⟨j,rfl,h1,h2⟩:=hm x (by simp)
  rw [List.pairwise_cons] at h
  refine ⟨j,rfl,h1,h2,Fi h.2 fun y hy=>?_⟩
  obtain ⟨j',rfl,_,h4⟩:=hm y (List.mem_cons_of_mem _ hy)
  have:=h.1 _ hy
  exact ⟨j',rfl,by omega,h4⟩
theorem iz.lt {n:Nat}:∀ {c:List Int} {k:Nat},iz n k c→c.Pairwise (·<·)
 | [],_,_=>.nil
 | x :: c,k,⟨j,h0,_,_,h3⟩=>by
  refine List.pairwise_cons.2 ⟨fun y hy=>?_,h3.lt⟩
  obtain ⟨j',rfl,h4,_⟩:=h3.mem y hy
  omega
theorem MF:∀ {a b:List Int},a.Pairwise (·<·)→b.Pairwise (·<·)→(∀ x,x ∈ a ↔ x ∈ b)→a=b
 | [],[],_,_,_=>rfl
 | [],y :: b,_,_,h=>by have:=(h y).2 (by simp); simp at this
 | x :: a,[],_,_,h=>by have:=(h x).1 (by simp); simp at this
 | x :: a,y :: b,ha,hb,h=>by
  rw [List.pairwise_cons] at ha hb
  have e:x=y:=by
   rcases List.mem_cons.1 ((h x).1 (by simp)) with h1 | h1
   ·exact h1
   ·rcases List.mem_cons.1 ((h y).2 (by simp)) with h2 | h2
    ·exact h2.symm
    ·have:=ha.1 _ h2; have:=hb.1 _ h1; omega
  subst e
  congr 1
  refine MF ha.2 hb.2 fun z=>⟨fun hz=>?_,fun hz=>?_⟩
  ·rcases List.mem_cons.1 ((h z).1 (List.mem_cons_of_mem _ hz)) with h1 | h1
   ·have:=ha.1 _ hz; omega
   ·exact h1
  ·rcases List.mem_cons.1 ((h z).2 (List.mem_cons_of_mem _ hz)) with h1 | h1
   ·have:=hb.1 _ hz; omega
   ·exact h1
structure Hf (P:cZ) (an:List Int) (ps:List bb) (us:List Int):Prop where
 nG:∀ p ∈ ps,iz P.aj.length 0 p.cT∧ko P p.cT=true∧∀ a ∈ an,a ∈ p.cT
 apart:ps.Pairwise fun p q=>∀ x ∈ p.cT,x ∈ q.cT→x ∈ an
 mK:iz P.aj.length 0 us
 mem:∀ x,x ∈ us ↔ ∃ p ∈ ps,x ∈ p.cT
 ez:an=[]→∀ p,ps[0]?=some p→∀ F,9000<F→wY F P p=some 0
theorem Fj {F k:Nat} {P:cZ} {an:List Int} (hP:q9 P) (ha:iz P.aj.length 0 an) (hF:9000<F) (hk:1≤k∧k≤4) (hR:P.Rows.length+an.length+P.aj.length≤60) :
  cS (DM F P an (k:Int)) (fun z=>z.2=10 ∨ (z.2=0∧z.1.length=k∧∃ us,Hf P an z.1 us)):=by
 have hn:=hP.n
 unfold DM
 rw [kL hP (by omega)]
 simp only [Option.bind_some,Bool.not_true,Bool.false_eq_true,if_false,nJ (F:=F) ha hn (by omega),show decide ((k:Int)<1)=false by simp; omega,show decide ((k:Int) > 4)=false by simp; omega]
 have ek:(k:Int)=((List.replicate k ()).length:Int):=by simp
 rw [ek]
 refine ca (a:=List.replicate k ()) (L:=fun m i (s:List bb × List Int)=>Gw F P an ((List.replicate k ()).length:Int) m i s.1 s.2) (fun i s=>s.1.length=i∧Hf P an s.1 s.2) (fun m i x s hx hI=>?_) (fun m s hI=>?_) (by simp; omega) (s0:=(([]:List bb),([]:List Int))) ⟨rfl,by simp,.nil,trivial,by simp,by simp⟩
 ·obtain ⟨ps,us⟩:=s
  obtain ⟨hl,hI⟩:=hI
  have Ls:i<k:=by have:=(List.getElem?_eq_some_iff.1 hx).1; simpa using this
  replace hl:ps.length=i:=hl
  replace hI:Hf P an ps us:=hI
  have rJ:=hI.mK.len (by omega)
  have hRu:P.Rows.length+an.length+us.length≤60:=by omega
  have hP':=Nv (an:=an) (us:=us) hP hRu
  simp only [Gw,CU,dM hx,if_true,GW hP ha hI.mK (show 1000<F by omega) hRu,Option.bind_some,dt (show i<1000000 by omega)]
  rw [if_neg (by simp)]
  obtain ⟨z,hz,Bn,Jf⟩:=PS hP' hF
  rw [hz]
  simp only [Option.bind_some,Bn]
  rw [if_neg (by simp)]
  by_cases hf:z.1.Found=true
  ·obtain ⟨hg,Be⟩:=Jf hf
   rw [if_neg (by simp [hf])]
   have Va:z.1.cT.length≤P.aj.length:=by have:=hg.1.len (by omega); simpa [lM] using this
   rw [dp (by simp; omega)]
   simp only [Option.bind_some]
   rw [dp (by omega)]
   simp only [Option.bind_some]
   have es:xl (us++z.1.cT)=some ((us++z.1.cT).mergeSort fun x y=>decide (x≤y)):=by unfold xl; rw [if_pos (by simp; omega)]
   have hp:=List.mergeSort_perm (us++z.1.cT) (fun x y=>decide (x≤y))
   have Od:=List.pairwise_mergeSort (le:=fun (x y:Int)=>decide (x≤y)) (by intro a b c; simp; omega) (by intro a b; simp; omega) (us++z.1.cT)
   generalize (us++z.1.cT).mergeSort (fun x y=>decide (x≤y))=so at es hp Od
   have aco:so.Pairwise (·≤·):=Od.imp fun h=>by simpa using h
   have hsl:=hp.length_eq
   simp only [List.length_append] at hsl
   have ec:KT so=some (Lib.compact so):=by unfold KT; rw [if_pos (by omega)]
   rw [es]
   simp only [Option.bind_some,ec]
   have hgA:iz P.aj.length 0 z.1.cT:=hg.1
   obtain ⟨m1,m2,m3⟩:=GV ha hI.mK hgA hg.2.1
   have eP:∀ x,x ∈ Lib.compact so ↔ x ∈ us ∨ x ∈ z.1.cT:=fun x=>by rw [BN,hp.mem_iff,List.mem_append]
   refine .inr ⟨(ps++[z.1],Lib.compact so),rfl,by simp [hl],⟨fun p hp=>?_,?_,?_,fun x=>?_,fun e p O2 F' ZU=>?_⟩⟩
   ·rcases List.mem_append.1 hp with h | h
    ·exact hI.nG p h
    ·rw [List.mem_singleton.1 h]; exact ⟨hgA,m1,m2⟩
   ·show (ps++[z.1]).Pairwise _
    refine List.pairwise_append.2 ⟨hI.apart,by simp,fun p hp q hq x hx hxq=>?_⟩
    rw [List.mem_singleton.1 hq] at hxq
    by_cases hxa:x ∈ an
    ·exact hxa
    ·exact absurd hxq (m3 x ((hI.mem x).2 ⟨p,hp,hx⟩) hxa)
   ·refine Fi (Fs aco) fun x hx=>?_
    rcases (eP x).1 hx with h | h
    ·obtain ⟨j,e1,e2,e3⟩:=hI.mK.mem x h; exact ⟨j,e1,e2,e3⟩
    ·obtain ⟨j,e1,e2,e3⟩:=hgA.mem x h; exact ⟨j,e1,e2,e3⟩
   ·show x ∈ Lib.compact so ↔ _
    rw [eP,hI.mem]
    simp only [List.mem_append,List.mem_singleton]
    constructor
    ·rintro (⟨p,h1,h2⟩ | h)
     ·exact ⟨p,.inl h1,h2⟩
     ·exact ⟨_,.inr rfl,h⟩
    ·rintro ⟨p,h1 | rfl,h2⟩
     ·exact .inl ⟨p,h1,h2⟩
     ·exact .inr h2
   ·cases s6:ps with
    | nil =>
     subst s6; subst e
     have eu:us=[]:=by
      cases us with
      | nil=>rfl
      | cons u us=>obtain ⟨p,hp,_⟩:=(hI.mem u).1 (by simp); simp at hp
     subst eu
     replace O2:([]++[z.1])[0]?=some p:=O2
     simp at O2
     subst O2
     have:=Be F' ZU
     rwa [JL] at this
    | cons p0 ps' =>
     subst s6
     exact hI.ez e p (by simpa using O2) F' ZU
  ·rw [if_pos (by simp [hf])]
   exact .inl ⟨_,rfl,.inl rfl⟩
 ·obtain ⟨ps,us⟩:=s
  simp only [Gw,CU,dL,Bool.false_eq_true,if_false]
  exact ⟨_,rfl,.inr ⟨rfl,by simpa using hI.1,us,hI.2⟩⟩
theorem Cs {α β:Type} [DecidableEq α] (k:α) (v:β):∀ m:List (α × β),(et m k v).length=if (eR m k).isSome then m.length else m.length+1
 | []=>by simp [et,eR]
 | (a,b) :: r=>by
  simp only [et,eR]
  by_cases h:a=k
  ·simp [h]
  ·simp only [h,if_false,List.length_cons,Cs k v r]
   split <;> rfl
theorem yU {m:List (Int × Bool)} {l:List Int} {x:Int} (h:∀ y,eR m y=if y ∈ l then some true else .none) (hl:m.length=l.length) (hx:x ∉ l):(∀ y,eR (et m x true) y=if y ∈ l++[x] then some true else .none)∧(et m x true).length=(l++[x]).length:=by
 constructor
 ·intro y
  rw [pW,h]
  by_cases hy:y=x
  ·simp [hy]
  ·simp [hy]
 ·rw [Cs,h]
  simp [hx,hl]
theorem Ct {c:List Int} {i:Nat} {x:Int} (h:c.Pairwise (·<·)) (hx:c[i]?=some x):x ∉ c.take i:=by
 intro hm
 obtain ⟨j,hj⟩:=List.getElem?_of_mem hm
 have B9:j<i:=by have:=(List.getElem?_eq_some_iff.1 hj).1; simp at this; omega
 rw [List.getElem?_take,if_pos B9] at hj
 obtain ⟨h1,e1⟩:=List.getElem?_eq_some_iff.1 hj
 obtain ⟨h2,e2⟩:=List.getElem?_eq_some_iff.1 hx
 have:=List.pairwise_iff_getElem.1 h j i h1 h2 B9
 omega
theorem Oy {F n:Nat} {an:List Int} {cs:List (List Int)} (ha:iz n 0 an) (hn:n≤12) (hF:1000<F) (hl:cs.length≤100) (hc:∀ c ∈ cs,iz n 0 c∧∀ a ∈ an,a ∈ c) (hp:cs.Pairwise fun c d=>∀ x ∈ c,x ∈ d→x ∈ an):xb F cs an=some true:=by
 have ya:=ha.len (by omega)
 have key : cS (xb F cs an) (fun z => z = true) := by
  unfold xb
  refine cS.ite (fun _=>⟨_,rfl,rfl⟩) fun _=>?_
  refine ca (a:=an) (L:=fun q i (m:List (Int × Bool))=>wP F cs an q i m) (fun i m=>(∀ y,eR m y=if y ∈ an.take i then some true else .none)∧m.length=(an.take i).length) (fun q i x m hx hI=>.inr ⟨et m x true,?_,?_⟩) (fun q m hI=>?_) (by omega) ⟨fun y=>by simp [eR],rfl⟩
  ·have hi:i<an.length:=(List.getElem?_eq_some_iff.1 hx).1
   simp only [wP,Dq,dM hx,if_true,cr hx,Option.bind_some,dt (show i<1000000 by omega)]
  ·have:=yU hI.1 hI.2 (Ct ha.lt hx)
   rw [List.take_add_one,hx,Option.toList_some]
   exact this
  ·rw [List.take_length] at hI
   simp only [wP,Dq,dL,Bool.false_eq_true,if_false]
   refine ca (a:=cs) (L:=fun q i (o:List (Int × Int))=>AW F cs m q i o) (fun i o=>∀ x v,eR o x=some v→∃ (j:Nat) (c:List Int),v=(j:Int)∧j<i∧cs[j]?=some c∧x ∈ c) (fun q i c o hx hO=>.inr ?_) (fun q o hO=>?_) (by omega) (fun x v h=>by simp [eR] at h)
   ·have hi : i < cs.length := (List.getElem?_eq_some_iff.1 hx).1
    obtain ⟨hcA,OV⟩:=hc c (List.mem_of_getElem? hx)
    have hcl:=hcA.len (by omega)
    have Wa:=hcA.lt
    simp only [AW,Dr,dM hx,if_true,cr hx,Option.bind_some]
    -- one choice
    have inner : ∀ (d j q' : Nat) (o1 : List (Int × Int)) (t : List (Int × Bool)), j + d = c.length → d < q' → (∀ x v, eR o1 x = some v → ∃ (j : Nat) (c : List Int), v = (j : Int) ∧ j < i + 1 ∧ cs[j]? = some c ∧ x ∈ c) → (∀ y, eR t y = if y ∈ (c.take j).filter (fun u => decide (u ∈ an)) then some true else .none) → t.length = ((c.take j).filter (fun u => decide (u ∈ an))).length →
      ∃ o2,wQ (AW F cs m q) m (i:Int) c q' (j:Int) o1 t=AW F cs m q ((i+1:Nat):Int) o2∧∀ x v,eR o2 x=some v→∃ (j:Nat) (c:List Int),v=(j:Int)∧j<i+1∧cs[j]?=some c∧x ∈ c:=by
     intro d
     induction d with
     | zero =>
      intro j q' o1 t hj hq ho ht Vi
      cases q' with
      | zero=>omega
      | succ q' =>
       have:j=c.length:=by omega
       subst this
       rw [List.take_length] at Vi
       have e:c.filter (fun u=>decide (u ∈ an))=an:=MF (Wa.filter _) ha.lt fun x=>by
        simp only [List.mem_filter,decide_eq_true_eq]
        exact ⟨fun h=>h.2,fun h=>⟨OV x h,h⟩⟩
       rw [e] at Vi
       simp only [wQ,Ds,dL,Bool.false_eq_true,if_false]
       rw [if_neg (by simp [Vi,hI.2]),dt (show i<1000000 by omega)]
       exact ⟨o1,rfl,ho⟩
     | succ d ih =>
      intro j q' o1 t hj hq ho ht Vi
      cases q' with
      | zero=>omega
      | succ q' =>
       have nz:j<c.length:=by omega
       have Tf:c[j]?=some c[j]:=by simp [nz]
       have hnt:=Ct Wa Tf
       have eP:c[j] ∈ c:=List.getElem_mem nz
       simp only [wQ,Ds,dM Tf,if_true,cr Tf,Option.bind_some,dt (show j<1000000 by omega),hI.1]
       by_cases hA:c[j] ∈ an
       ·simp only [hA,if_true,Option.getD_some]
        have hs:=yU (x:=c[j]) ht Vi (fun h=>hnt (List.mem_filter.1 h).1)
        refine ih (j+1) q' o1 _ (by omega) (by omega) ho ?_ ?_
        ·rw [List.take_add_one,Tf,Option.toList_some,List.filter_append]; simpa [hA] using hs.1
        ·rw [List.take_add_one,Tf,Option.toList_some,List.filter_append]; simpa [hA] using hs.2
       ·simp only [hA,if_false,Option.getD_none,Bool.false_eq_true]
        have uO:((eR o1 c[j]).isSome && (((eR o1 c[j]).getD 0) != (i:Int)))=false:=by
         cases hv:eR o1 c[j] with
         | none=>rfl
         | some v =>
          obtain ⟨j',c',e1,e2,e3,e4⟩:=ho _ _ hv
          subst e1
          by_cases Bh:j'=i
          ·simp [Bh]
          ·exfalso
           obtain ⟨b1,e5⟩:=List.getElem?_eq_some_iff.1 e3
           obtain ⟨b2,e6⟩:=List.getElem?_eq_some_iff.1 hx
           have:=List.pairwise_iff_getElem.1 hp j' i b1 b2 (by omega) c[j] (by rw [e5]; exact e4) (by rw [e6]; exact eP)
           exact hA this
        rw [uO]
        simp only [Bool.false_eq_true,if_false]
        refine ih (j+1) q' _ t (by omega) (by omega) (fun x v hv=>?_) ?_ ?_
        ·rw [pW] at hv
         by_cases Xe:x=c[j]
         ·rw [if_pos Xe] at hv; cases hv
          exact ⟨i,c,rfl,by omega,hx,by rw [Xe]; exact eP⟩
         ·rw [if_neg Xe] at hv; exact ho x v hv
        ·rw [List.take_add_one,Tf,Option.toList_some,List.filter_append]; simpa [hA] using ht
        ·rw [List.take_add_one,Tf,Option.toList_some,List.filter_append]; simpa [hA] using Vi
    obtain ⟨o2,e1,e2⟩:=inner c.length 0 F o [] (by omega) (by omega) (fun x v hv=>by obtain ⟨j,c',a,b,d⟩:=hO x v hv; exact ⟨j,c',a,by omega,d⟩) (fun y=>by simp [eR]) (by simp)
    exact ⟨o2,e1,e2⟩
   ·simp only [AW,Dr,dL,Bool.false_eq_true,if_false]
    exact ⟨_,rfl,rfl⟩
 obtain ⟨z,hz,rfl⟩:=key
 exact hz
end Go.Sh
namespace Go.Sh
open Go.L
theorem B1 {F:Nat} {l:List Int} {v:Int} (hb:l.length<1000000) (hF:l.length<F):AS F l v=some (decide (v ∈ l)):=by
 unfold AS y9
 obtain ⟨r,h1,h2⟩:cS (Nq l v F 0) (fun r=>r ≥ 0 ↔ v ∈ l):=by
  refine ca (a:=l) (L:=fun n i (_:Unit)=>Nq l v n i) (fun i _=>v ∉ l.take i) (fun n i x s hx hI=>?_) (fun n s hI=>?_) hF (s0:=()) (by simp)
  ·have hi:i<l.length:=(List.getElem?_eq_some_iff.1 hx).1
   simp only [Nq,Gk,dM hx,if_true,cr hx,Option.bind_some,dt (show i<1000000 by omega)]
   by_cases hv:(v == x)=true
   ·rw [if_pos hv]
    have:v=x:=by simpa using hv
    exact .inl ⟨_,rfl,by rw [this]; simp [List.mem_of_getElem? hx]⟩
   ·rw [if_neg hv]
    refine .inr ⟨(),rfl,fun hm=>?_⟩
    rw [List.take_add_one,hx] at hm
    simp only [Option.toList_some,List.mem_append,List.mem_singleton] at hm
    exact hm.elim hI fun h=>hv (by simp [h])
  ·simp only [Nq,Gk,dL,Bool.false_eq_true,if_false]
   refine ⟨_,rfl,?_⟩
   rw [List.take_length] at hI
   simp [hI]
 rw [h1]
 simp only [Option.bind_some]
 congr 1
 rw [Bool.eq_iff_iff]; simp [h2]
theorem Lf {F:Nat} {l:List bD} {v:bD} (hb:l.length<1000000) (hF:l.length<F):CM F l v=some (decide (v ∈ l)):=by
 unfold CM HV
 obtain ⟨r,h1,h2⟩:cS (DF l v F 0) (fun r=>r ≥ 0 ↔ v ∈ l):=by
  refine ca (a:=l) (L:=fun n i (_:Unit)=>DF l v n i) (fun i _=>v ∉ l.take i) (fun n i x s hx hI=>?_) (fun n s hI=>?_) hF (s0:=()) (by simp)
  ·have hi:i<l.length:=(List.getElem?_eq_some_iff.1 hx).1
   simp only [DF,Np,dM hx,if_true,cr hx,Option.bind_some,dt (show i<1000000 by omega)]
   by_cases hv:decide (v=x)=true
   ·rw [if_pos hv]
    have:v=x:=by simpa using hv
    exact .inl ⟨_,rfl,by rw [this]; simp [List.mem_of_getElem? hx]⟩
   ·rw [if_neg hv]
    refine .inr ⟨(),rfl,fun hm=>?_⟩
    rw [List.take_add_one,hx] at hm
    simp only [Option.toList_some,List.mem_append,List.mem_singleton] at hm
    exact hm.elim hI fun h=>hv (by simp [h])
  ·simp only [DF,Np,dL,Bool.false_eq_true,if_false]
   refine ⟨_,rfl,?_⟩
   rw [List.take_length] at hI
   simp [hI]
 rw [h1]
 simp only [Option.bind_some]
 congr 1
 rw [Bool.eq_iff_iff]; simp [h2]
theorem Eu {F:Nat} {l:List ah} {a b:Int} {p:ah→Option Int} (f:ah→Int) (hb:l.length<1000000) (hF:l.length<F) (hp:∀ x ∈ l,p x=some (f x)):uA F l a b p=some (ar.mk (l.map f) a b):=by
 unfold uA
 rw [k7 (by omega)]
 simp only [Option.bind_some]
 refine K8 (a:=l) (L:=wX l a b p) f (fun q=>ar.mk q a b) (fun n i x q q' hx hq=>?_) (fun n q=>?_) hF
 ·have hi:i<l.length:=(List.getElem?_eq_some_iff.1 hx).1
  have h1:(q++(0:Int) :: q')[i]?=some 0:=by rw [← hq]; simp
  have h2:(q++(0:Int) :: q').set i (f x)=q++f x :: q':=by rw [← hq]; simp
  simp only [wX,DC,dM hx,if_true,cr hx,hp x (List.mem_of_getElem? hx),cr h1,Option.bind_some,dt (show i<1000000 by omega),Int.toNat_natCast,h2]
 ·simp only [wX,DC,dL,Bool.false_eq_true,if_false]
def dX (n i j:Nat):ar:=ar.mk (((List.replicate n (0:Int)).set i 1).set j 1) 0 1
def ku (n:Nat) (q:List ar):Prop:=∀ r ∈ q,∃ i j,i<j∧j<n∧r=dX n i j
end Go.Sh
namespace Go.Sh
open Go.L
def total (x:ah):Int:=(x.aH.map (·.Max)).sum
def qu (x:ah):Prop:=iB x=0∧0≤total x∧total x≤200
theorem NM {F:Nat} {l:List aq} (hl:l.length<F) (hb:l.length≤6) (hm:∀ p ∈ l,0≤p.Max∧p.Max≤40):yv F l=some ((l.map (·.Max)).sum):=by
 unfold yv
 obtain ⟨r,h1,rfl⟩:cS (xg l F 0 0) (fun r=>r=(l.map (·.Max)).sum):=by
  refine ca (a:=l) (L:=fun n i (s:Int)=>xg l n s i) (fun i s=>s=((l.take i).map (·.Max)).sum∧0≤s∧s≤40 * i) (fun n i x s hx hI=>.inr ?_) (fun n s hI=>?_) hl ⟨by simp,by omega,by omega⟩
  ·have hi:i<l.length:=(List.getElem?_eq_some_iff.1 hx).1
   have Bl:=hm x (List.mem_of_getElem? hx)
   simp only [xg,GL,dM hx,if_true,cr hx,Option.bind_some,dt (show i<1000000 by omega)]
   refine ⟨_,rfl,?_,?_,?_⟩
   ·rw [bR (by omega) (by omega),List.take_add_one,hx,hI.1]; simp
   ·rw [bR (by omega) (by omega)]; omega
   ·rw [bR (by omega) (by omega)]; omega
  ·simp only [xg,GL,dL,Bool.false_eq_true,if_false]
   rw [List.take_length] at hI
   exact ⟨_,rfl,hI.1⟩
 exact h1
theorem jq {x:ah} (h:iB x=0):x.aH.length≤6∧∀ p ∈ x.aH,1≤p.Max∧p.Max≤40:=by
 unfold iB at h
 split at h
 ·cases h
 ·split at h
  ·cases h
  ·rename_i h2
   split at h
   ·cases h
   ·split at h
    ·cases h
    ·split at h
     ·rename_i h5
      refine ⟨by simp at h2; omega,fun p hp=>?_⟩
      have:=List.all_eq_true.1 h5 p hp
      unfold F8 at this
      simp at this
      omega
     ·cases h
theorem PZ {F:Nat} {x:ah} (hF:50<F) (h:iB x=0):xf F x=some (total x):=by
 unfold xf
 obtain ⟨h1,h2⟩:=jq h
 rw [lG hF]
 simp only [Option.bind_some,h,show ((0:Int) != 0)=false from rfl,Bool.false_eq_true,if_false]
 rw [NM (by omega) h1 (fun p hp=>by have:=h2 p hp; omega)]
 rfl
def Fx (f:bA) (x:ah):Int:=if bD.mk x.ID x.Version ∈ f.Items then 1 else 0
def uU (l:List ah) (f:bA):ar:=ar.mk (l.map (Fx f)) 0 0
end Go.Sh
namespace Go.Sh
open Go.L
structure KM (l:List ah) (prev:List bA) (P:cZ):Prop where
 n:P.aj.length=l.length
 c:∀ x ∈ P.aj,0≤x∧x≤10000
 rows:∃ q,ku l.length q∧q.length≤25∧P.Rows=ar.mk (l.map fun _=>1) 1 2 :: ar.mk (l.map total) 0 200 :: q++prev.map (uU l)
theorem Oz {α:Type} (f:α→Int) {l:List α} {i:Nat} {x:α} (h:l[i]?=some x):oZ (l.map f) (i:Int)=f x:=by simp [oZ,List.getD,h]
theorem Py (n i j k:Nat):oZ (dX n i j).bU (k:Int)=0 ∨ oZ (dX n i j).bU (k:Int)=1:=by
 simp only [oZ,dX,Int.toNat_natCast,List.getD,List.getElem?_set,List.length_set,List.length_replicate,List.getElem?_replicate]
 split <;> split <;> (try split) <;> (try split) <;> simp_all
theorem Cz {n i j:Nat}:∀ x ∈ (dX n i j).bU,x=0 ∨ x=1:=by
 intro x hx
 obtain ⟨k,hk⟩:=List.mem_iff_getElem?.1 hx
 have:=Py n i j k
 simp only [oZ,Int.toNat_natCast,List.getD,hk,Option.getD_some] at this
 exact this
theorem Hu (f:bA) (x:ah):Fx f x=0 ∨ Fx f x=1:=by unfold Fx; split <;> simp
theorem KM.ok {l:List ah} {prev:List bA} {P:cZ} (h:KM l prev P) (hl:l.length≤5) (hp:prev.length≤1) (hk:∀ x ∈ l,qu x):q9 P:=by
 obtain ⟨q,hq,hq1,hr⟩:=h.rows
 have Fm:∀ r ∈ P.Rows,r=ar.mk (l.map fun _=>1) 1 2 ∨ r=ar.mk (l.map total) 0 200 ∨ r ∈ q ∨ ∃ f ∈ prev,r=uU l f:=by
  intro r hm
  rw [hr] at hm
  simp only [List.cons_append,List.mem_cons,List.mem_append,List.mem_map] at hm
  rcases hm with h | h | h | ⟨f,hf,h⟩
  ·exact .inl h
  ·exact .inr (.inl h)
  ·exact .inr (.inr (.inl h))
  ·exact .inr (.inr (.inr ⟨f,hf,h.symm⟩))
 refine ⟨by rw [h.n]; omega,by rw [hr]; simp; omega,h.c,fun r hm=>?_,fun r hm=>?_,fun r hm=>?_⟩
 ·rcases Fm r hm with rfl | rfl | hm | ⟨f,_,rfl⟩
  ·simp [h.n]
  ·simp [h.n]
  ·obtain ⟨i,j,_,_,rfl⟩:=hq r hm; simp [dX,h.n]
  ·simp [uU,h.n]
 ·rcases Fm r hm with rfl | rfl | hm | ⟨f,_,rfl⟩
  ·intro x hx; simp at hx; omega
  ·intro x hx
   obtain ⟨y,hy,rfl⟩:=List.mem_map.1 hx
   have:=hk y hy; unfold qu at this; omega
  ·obtain ⟨i,j,_,_,rfl⟩:=hq r hm
   intro x hx; rcases Cz x hx with rfl | rfl <;> omega
  ·intro x hx
   obtain ⟨y,hy,rfl⟩:=List.mem_map.1 hx
   rcases Hu f y with h | h <;> rw [h] <;> omega
 ·rcases Fm r hm with rfl | rfl | hm | ⟨f,_,rfl⟩
  ·simp
  ·simp
  ·obtain ⟨i,j,_,_,rfl⟩:=hq r hm; simp [dX]
  ·simp [uU]
end Go.Sh
namespace Go.Sh
open Go.L
theorem iz.get {n:Nat}:∀ {l:List Int} {k:Nat},iz n k l→∀ (i:Nat) x,l[i]?=some x→∃ j:Nat,x=(j:Int)∧k+i≤j∧j<n∧∀ y,0<i→l[i - 1]?=some y→y<x
 | a :: l,k,⟨j,h0,h1,h2,h3⟩,i,x,hx=>by
  cases i with
  | zero =>
   simp only [List.getElem?_cons_zero,Option.some.injEq] at hx
   subst hx
   exact ⟨j,h0,by omega,h2,fun y hy=>by omega⟩
  | succ i =>
   simp only [List.getElem?_cons_succ] at hx
   obtain ⟨j',e,g1,g2,g3⟩:=h3.get i x hx
   refine ⟨j',e,by omega,g2,fun y _ hy=>?_⟩
   cases i with
   | zero =>
    simp only [Nat.zero_add,Nat.sub_self,List.getElem?_cons_zero,Option.some.injEq] at hy
    subst hy; omega
   | succ i =>
    simp only [Nat.add_sub_cancel,List.getElem?_cons_succ] at hy
    exact g3 y (by omega) (by simpa using hy)
def yx (x:ah):bD:=bD.mk x.ID x.Version
end Go.Sh
namespace Go.Sh
open Go.L
structure ug (l:List a8):Prop where
 val:kU l
 Ti:∀ r ∈ l,0≤r.ID∧r.ID<5
 it:∀ r ∈ l,∀ x ∈ r.ak,qu x
 us:∀ r ∈ l,r.Uses.length≤9∧∀ u ∈ r.Uses,u.Time≤100∧u.Form ≠ 900
theorem xm:∀ (l:List a8) (a b:Nat),a≤b→iJ l→(∀ r ∈ l,(a:Int)≤r.ID∧r.ID<(b:Int))→l.length+a≤b
 | [],a,b,qo,_,_=>by simpa using qo
 | r :: l,a,b,qo,hs,hr=>by
  have h1:=hr r (by simp)
  unfold iJ at hs
  obtain ⟨h2,h3⟩:=List.pairwise_cons.1 hs
  have:=xm l (a+1) b (by omega) h3 fun x hx=>by
   have:=h2 x hx; have:=hr x (by simp [hx]); omega
  simp only [List.length_cons]; omega
theorem ug.len {l:List a8} (h:ug l):l.length≤5:=by
 have:=xm l 0 5 (by omega) h.val.sort (fun r hr=>by have:=h.Ti r hr; omega)
 omega
def wb (r:a8):Option ah:=if r.al=true then .none else (ng r.au r.au.length).bind fun j=>r.ak[j]?
theorem rR {r:a8} (hr:oX r):∀ {x:ah},wb r=some x→x ∈ r.ak∧x.ID=r.ID∧∃ j:Nat,r.ak[j]?=some x∧x.Version=(j:Int)+1∧ng r.au r.au.length=some j∧r.al=false:=by
 intro x h
 unfold wb at h
 split at h
 ·cases h
 ·rename_i hw
  cases hl:ng r.au r.au.length with
  | none=>rw [hl] at h; cases h
  | some j =>
   rw [hl] at h
   simp only [Option.bind_some] at h
   have:=hr.vs j x h
   exact ⟨List.mem_of_getElem? h,this.2.1,j,h,this.2.2,rfl,by simpa using hw⟩
theorem Ji {r:a8} (hr:oX r):(if r.al=true then .none else (ng r.au r.au.length).map fun (j:Nat)=>(⟨r.ID,(j:Int)+1⟩:bD))=(wb r).map yx:=by
 unfold wb
 split
 ·rfl
 ·cases hl:ng r.au r.au.length with
  | none=>rfl
  | some j =>
   have hj:=(wc hl).1
   rw [hr.ap] at hj
   have hx:r.ak[j]?=some r.ak[j]:=by simp [hj]
   simp only [Option.map_some,Option.bind_some,hx]
   have:=hr.vs j _ hx
   simp [yx,this.2.1,this.2.2]
theorem VT {r:a8} (hr:oX r) {time rest iE:Int} (h1:(r.Uses.length:Int)≤iE) (h2:∀ u ∈ r.Uses,u.Time≤time - rest):R8 time rest iE r=(wb r).map yx:=by
 rw [← Ji hr]
 unfold R8
 have e:r.Uses.any (fun u=>decide (u.Time > time - rest))=false:=by
  rw [List.any_eq_false]; intro u hu; have:=h2 u hu; simp; omega
 by_cases hw:r.al=true
 ·simp [hw]
 ·rw [if_neg (by simp [hw]; omega),e,if_neg hw]
  simp
theorem BS {α β:Type} {f g:α→Option β}:∀ {l:List α},(∀ x ∈ l,f x=g x)→l.filterMap f=l.filterMap g
 | [],_=>rfl
 | x :: l,h=>by
  have h1:=h x (by simp)
  have h2:=BS (l:=l) fun y hy=>h y (by simp [hy])
  simp only [List.filterMap_cons,h1,h2]
def c8 (l:List a8):List ah:=l.filterMap wb
theorem VU {l:List a8} (h:ug l):BP l 100 0 9=(c8 l).map yx:=by
 unfold BP
 rw [if_neg (by rw [qY.2 h.val]; decide)]
 unfold c8
 rw [List.map_filterMap]
 refine BS fun r hr=>?_
 exact VT (h.val.ok r hr) (by have:=(h.us r hr).1; omega) (fun u hu=>by have:=((h.us r hr).2 u hu).1; omega)
theorem N1 {l:List a8} (h:ug l) {x:ah} (hx:x ∈ c8 l):J0 l x.ID x.Version=(x,true):=by
 unfold c8 at hx
 obtain ⟨r,hr,hi⟩:=List.mem_filterMap.1 hx
 obtain ⟨h1,h2,j,h3,h4,_,_⟩:=rR (h.val.ok r hr) hi
 have Wi:l.find? (fun q=>decide (q.ID=x.ID))=some r:=by
  have key:∀ (l:List a8),iJ l→r ∈ l→l.find? (fun q=>decide (q.ID=x.ID))=some r:=by
   intro l
   induction l with
   | nil=>intro _ h; cases h
   | cons q l ih =>
    intro hs hm
    unfold iJ at hs
    obtain ⟨g1,g2⟩:=List.pairwise_cons.1 hs
    rcases List.mem_cons.1 hm with rfl | hm
    ·simp [h2]
    ·have:=g1 r hm
     rw [List.find?_cons_of_neg (by simp; omega)]
     exact ih g2 hm
  exact key l h.val.sort hr
 unfold J0
 rw [Wi]
 have hj:j<r.ak.length:=(List.getElem?_eq_some_iff.1 h3).1
 have e:(x.Version - 1).toNat=j:=by omega
 simp only
 rw [if_neg (by omega),e,List.getD_eq_getElem?_getD,h3]
 rfl
end Go.Sh
namespace Go.Sh
open Go.L
theorem nK {l:List a8} (h:ug l):(c8 l).length≤5:=Nat.le_trans (List.length_filterMap_le _ _) h.len
theorem yT {l:List a8} (h:ug l):∀ x ∈ c8 l,qu x:=fun x hx=>by
 unfold c8 at hx
 obtain ⟨r,hr,hi⟩:=List.mem_filterMap.1 hx
 exact h.it r hr x (rR (h.val.ok r hr) hi).1
theorem Cl {l:List a8} (h:ug l):(c8 l).Pairwise fun a b=>a.ID<b.ID:=by
 have key:∀ (l:List a8),iJ l→(∀ r ∈ l,oX r)→(c8 l).Pairwise fun a b=>a.ID<b.ID:=by
  intro l
  induction l with
  | nil=>intro _ _; simp [c8]
  | cons r l ih =>
   intro hs hk
   unfold iJ at hs
   obtain ⟨h1,h2⟩:=List.pairwise_cons.1 hs
   have h3:=ih h2 fun q hq=>hk q (by simp [hq])
   unfold c8
   rw [List.filterMap_cons]
   cases hi:wb r with
   | none=>exact h3
   | some x =>
    refine List.pairwise_cons.2 ⟨fun y hy=>?_,h3⟩
    obtain ⟨q,hq,O3⟩:=List.mem_filterMap.1 hy
    have e1:=(rR (hk r (by simp)) hi).2.1
    have e2:=(rR (hk q (by simp [hq])) O3).2.1
    have:=h1 q hq
    omega
 exact key l h.val.sort h.val.ok
theorem KS {F:Nat} (hF:500<F) {ev:List bu} {l:List a8} {rf:List gM} {code:Int} (yM:iK F ev 1000000=some (⟨l⟩,rf,code)) (h:ug l) :
  DH F ev 100 0 9=some (⟨l⟩,c8 l,code == 0):=by
 unfold DH
 rw [yM]
 simp only [Option.bind_some,vw (show 400<F by omega),VU h]
 have hn:=nK h
 obtain ⟨r,h1,rfl⟩:cS (Ee F (⟨l⟩,rf,code) ((c8 l).map yx) F 0 ([]:List ah)) (fun r=>r=(⟨l⟩,c8 l,code == 0)):=by
  have hml:((c8 l).map yx).length=(c8 l).length:=by simp
  refine ca (a:=(c8 l).map yx) (L:=Ee F (⟨l⟩,rf,code) ((c8 l).map yx)) (fun i s=>s=(c8 l).take i) (fun n i x s hx hI=>.inr ?_) (fun n s hI=>?_) (by omega) (by simp)
  ·have hi:i<(c8 l).length:=by have:=(List.getElem?_eq_some_iff.1 hx).1; omega
   have hy:(c8 l)[i]?=some (c8 l)[i]:=by simp [hi]
   have Xe:x=yx (c8 l)[i]:=by
    rw [List.getElem?_map,hy] at hx; simpa using hx.symm
   have hv:=N1 h (List.mem_of_getElem? hy)
   have hs:s.length≤5:=by rw [hI]; simp; omega
   simp only [Ee,CN,dM hx,if_true,cr hx,Option.bind_some,dt (show i<1000000 by omega),xN (h.val.sh (show 400<F by omega))]
   rw [Xe]
   simp only [yx,hv,Bool.not_true,Bool.false_eq_true,if_false,bne_self_eq_false,Option.bind_some]
   rw [dp (by simp; omega)]
   exact ⟨_,rfl,by rw [hI,List.take_add_one,hy]; simp⟩
  ·simp only [Ee,CN,dL,Bool.false_eq_true,if_false]
   rw [hml,List.take_length] at hI
   exact ⟨_,rfl,by rw [hI]⟩
 exact h1
end Go.Sh
namespace Go.Sh
open Go.L
def Hp (a b:ah):Bool:=!(a.ID == b.ID) && (decide (b.ID ∈ a.aO) || decide (a.ID ∈ b.aO))
theorem Hq {F:Nat} {a b:ah} (hF:50<F) (ha:iB a=0) (hb:iB b=0):xe F a b=some (Hp a b):=by
 unfold xe Hp
 obtain ⟨⟨_,sa1,sa2⟩,_⟩:=sR hF ha
 obtain ⟨⟨_,sb1,sb2⟩,_⟩:=sR hF hb
 rw [lG hF,lG hF]
 simp only [Option.bind_some,ha,hb]
 rw [B1 sa1 sa2,B1 sb1 sb2]
 simp only [show ((0:Int) != 0)=false from rfl,Bool.false_eq_true,if_false,Option.bind_some]
 by_cases h:(a.ID == b.ID)=true
 ·simp [h]
 ·by_cases h2:b.ID ∈ a.aO <;> simp [h,h2]
theorem Pz {F:Nat} {l:List ah} {p0:List ar} (hF:100<F) (hl:l.length≤12) (h0:p0.length≤1000) (hk:∀ x ∈ l,iB x=0) :
  cS (JC F p0 l) (fun r=>∃ q,r=p0++q∧ku l.length q∧q.length≤l.length * l.length∧∀ i j a b,i<j→l[i]?=some a→l[j]?=some b→Hp a b=true→dX l.length i j ∈ q):=by
 unfold JC
 refine ca (a:=l) (L:=AR F l) (fun i s=>∃ q,s=p0++q∧ku l.length q∧q.length≤i * l.length∧∀ i' j a b,i'<i→i'<j→l[i']?=some a→l[j]?=some b→Hp a b=true→dX l.length i' j ∈ q) (fun n i x s hx hI=>.inr ?_) (fun n s hI=>?_) (by omega) ⟨[],by simp,by simp [ku],by simp,fun _ _ _ _ h=>by omega⟩
 ·have hi : i < l.length := (List.getElem?_eq_some_iff.1 hx).1
  have hii:i * l.length≤12 * 12:=Nat.mul_le_mul (by omega) hl
  obtain ⟨q0,rfl,hq0,hq1,hq2⟩:=hI
  simp only [AR,Ng,dM hx,if_true,dt (show i<1000000 by omega)]
  have inner : ∀ (d j m : Nat) (q : List ar), j + d = l.length → d < m → i < j → ku l.length q → q.length + d ≤ i * l.length + l.length → (∀ i' j' a b, (i' < i ∨ (i' = i ∧ j' < j)) → i' < j' → l[i']? = some a → l[j']? = some b → Hp a b = true → dX l.length i' j' ∈ q) →
    ∃ s',Gi (AR F l n) F l (i:Int) m (j:Int) (p0++q)=AR F l n ((i+1:Nat):Int) s'∧∃ q',s'=p0++q'∧ku l.length q'∧q'.length≤(i+1) * l.length∧∀ i' j a b,i'<i+1→i'<j→l[i']?=some a→l[j]?=some b→Hp a b=true→dX l.length i' j ∈ q':=by
   intro d
   induction d with
   | zero =>
    intro j m q hj hm ra hq WC Hx
    cases m with
    | zero=>omega
    | succ m =>
     have:j=l.length:=by omega
     subst this
     refine ⟨p0++q,?_,q,rfl,hq,by rw [Nat.succ_mul]; omega,fun i' j' a b h1 h2 h3 h4 h5=>Hx i' j' a b ?_ h2 h3 h4 h5⟩
     ·simp only [Gi,Nh,dL,Bool.false_eq_true,if_false,dt (show i<1000000 by omega)]
     ·have:=(List.getElem?_eq_some_iff.1 h4).1; omega
   | succ d ih =>
    intro j m q hj hm ra hq WC Hx
    cases m with
    | zero=>omega
    | succ m =>
     have nz:j<l.length:=by omega
     have hy:l[j]?=some l[j]:=by simp [nz]
     have hw:((idx l (i:Int)).bind fun x9=>(idx l (j:Int)).bind fun mI=>if (x9.ID != mI.ID)=true then (idx l (i:Int)).bind fun kb=>(idx l (j:Int)).bind fun jc=>(xe F kb jc).bind fun fJ=>some (!fJ) else some false)=some (if (x.ID != l[j].ID)=true then !Hp x l[j] else false):=by
      rw [cr hx,cr hy]
      simp only [Option.bind_some,Hq (F:=F) (show 50<F by omega) (hk x (List.mem_of_getElem? hx)) (hk _ (List.mem_of_getElem? hy))]
      split <;> rfl
     simp only [Gi,Nh,dM hy,if_true,hw,Option.bind_some,dt (show j<1000000 by omega)]
     by_cases hw1:(if (x.ID != l[j].ID)=true then !Hp x l[j] else false)=true
     ·rw [if_pos hw1]
      refine ih (j+1) m q (by omega) (by omega) (by omega) hq (by omega) fun i' j' a b h1 h2 h3 h4 h5=>?_
      by_cases hh:i'=i∧j'=j
      ·obtain ⟨rfl,rfl⟩:=hh
       rw [hx] at h3; rw [hy] at h4; cases h3; cases h4
       exfalso
       split at hw1
       ·rw [h5] at hw1; cases hw1
       ·cases hw1
      ·exact Hx i' j' a b (by omega) h2 h3 h4 h5
     ·rw [if_neg hw1,k7 (by omega)]
      have e1:idx (List.replicate l.length (0:Int)) (i:Int)=some 0:=cr (by simp [hi])
      have e2:idx ((List.replicate l.length (0:Int)).set i 1) (j:Int)=some 0:=cr (by rw [List.getElem?_set_ne (by omega)]; simp [nz])
      have e3:app (p0++q) [dX l.length i j]=some (p0++(q++[dX l.length i j])):=by
       rw [dp (by simp; omega),List.append_assoc]
      simp only [Option.bind_some,Int.toNat_natCast,e1,e2,Ii]
      rw [show ar.mk (((List.replicate l.length (0:Int)).set i 1).set j 1) 0 1=dX l.length i j from rfl,e3]
      simp only [Option.bind_some]
      refine ih (j+1) m (q++[dX l.length i j]) (by omega) (by omega) (by omega) (fun r hr=>?_) (by simp; omega) fun i' j' a b h1 h2 h3 h4 h5=>?_
      ·rcases List.mem_append.1 hr with hr | hr
       ·exact hq r hr
       ·exact ⟨i,j,ra,nz,by simpa using hr⟩
      ·by_cases hh:i'=i∧j'=j
       ·obtain ⟨rfl,rfl⟩:=hh; simp
       ·exact List.mem_append.2 (.inl (Hx i' j' a b (by omega) h2 h3 h4 h5))
  exact inner (l.length - (i+1)) (i+1) F q0 (by omega) (by omega) (by omega) hq0 (by omega) fun i' j' a b h1 h2 h3 h4 h5=>hq2 i' j' a b (by omega) h2 h3 h4 h5
 ·obtain ⟨q,rfl,hq,hq1,hq2⟩:=hI
  simp only [AR,Ng,dL,Bool.false_eq_true,if_false]
  exact ⟨_,rfl,q,rfl,hq,hq1,fun i j a b h1 h2 h3 h4=>hq2 i j a b (List.getElem?_eq_some_iff.1 h2).1 h1 h2 h3 h4⟩
def cQ (f:aq→Bool) (l:List aq):Int:=((l.filter f).map (·.Max)).sum
theorem qQ (f:aq→Bool) (a b:List aq):cQ f (a++b)=cQ f a+cQ f b:=by simp [cQ]
theorem pV (f:aq→Bool):∀ {l:List aq},(∀ p ∈ l,0≤p.Max∧p.Max≤40)→0≤cQ f l∧cQ f l≤40 * (l.length:Int)
 | [],_=>by simp [cQ]
 | p :: l,h=>by
  have h1:=pV f fun q hq=>h q (List.mem_cons_of_mem _ hq)
  have h2:=h p (by simp)
  unfold cQ at h1 ⊢
  rw [List.filter_cons]
  split
  ·simp only [List.map_cons,List.sum_cons,List.length_cons]; omega
  ·simp only [List.length_cons]; omega
theorem yV {F:Nat} {x:ah} {pf:aq→Option Bool} (f:aq→Bool) (hF:50<F) (h:iB x=0) (hp:∀ p,pf p=some (f p)):wJ F x pf=some (cQ f x.aH):=by
 obtain ⟨h1,h2⟩:=jq h
 obtain ⟨r,e,rfl⟩:cS (wJ F x pf) (fun r=>r=cQ f x.aH):=by
  unfold wJ
  refine ca (a:=x.aH) (L:=fun n i (s:Int)=>Gt x pf n s i) (fun i s=>s=cQ f (x.aH.take i)) (fun n i p s hx hI=>.inr ⟨_,?_,rfl⟩) (fun n s hI=>?_) (by omega) rfl
  ·subst hI
   have hi:i<x.aH.length:=(List.getElem?_eq_some_iff.1 hx).1
   have h3:=h2 p (List.mem_of_getElem? hx)
   have h4:=pV f (l:=x.aH.take i) fun q hq=>by have:=h2 q (List.mem_of_mem_take hq); omega
   have h5:(x.aH.take i).length≤6:=by simp; omega
   have h6:cQ f (x.aH.take (i+1))=cQ f (x.aH.take i)+if f p then p.Max else 0:=by
    rw [List.take_add_one,hx,Option.toList_some,qQ]; simp [cQ]; split <;> simp_all
   simp only [Gt,CP,dM hx,if_true,cr hx,Option.bind_some,dt (show i<1000000 by omega),hp,h6]
   by_cases hf:f p=true
   ·simp only [hf,if_true]; rw [bR (by omega) (by omega)]
   ·have hf0:f p=false:=by simpa using hf
    simp only [hf0,Bool.false_eq_true,if_false,Int.add_zero]
  ·subst hI
   simp only [Gt,CP,dL,Bool.false_eq_true,if_false]
   exact ⟨_,rfl,by simp⟩
 exact e
theorem VO {F:Nat} {l:List bM} {pf:bM→Option Bool} (hl:l.length<1000) (hF:1000<F) (hp:∀ x ∈ l,pf x=some false):Jy F l pf=some false:=by
 unfold Jy PD
 obtain ⟨r,e,rfl⟩:cS (Rx l pf F 0) (fun r=>r=-1):=by
  refine ca (a:=l) (L:=fun n i (_:Unit)=>Rx l pf n i) (fun _ _=>True) (fun n i p s hx _=>.inr ⟨(),?_,trivial⟩) (fun n s _=>?_) (by omega) (s0:=()) trivial
  ·have hi:i<l.length:=(List.getElem?_eq_some_iff.1 hx).1
   simp only [Rx,M9,dM hx,if_true,cr hx,Option.bind_some,dt (show i<1000000 by omega),hp p (List.mem_of_getElem? hx),Bool.false_eq_true,if_false]
  ·simp only [Rx,M9,dL,Bool.false_eq_true,if_false]
   exact ⟨_,rfl,rfl⟩
 rw [e]; rfl
structure qj (l:List bM):Prop where
 len:l.length≤4
 mK:l.Pairwise fun a b=>a.Index<b.Index
 ok:∀ r ∈ l,0≤r.Index∧r.Index<4∧0≤r.bE∧r.bE≤3∧4≤r.cX∧r.cX≤30
theorem qk {F:Nat} {l:List bM} {m:Int} (h:qj l) (hm:4≤m) (hF:1000<F):Gn F l m=some 0:=by
 have hl:=h.len
 obtain ⟨r,e,rfl⟩:cS (Gn F l m) (fun r=>r=0):=by
  unfold Gn
  refine ca (a:=l) (L:=fun n i (_:Unit)=>Gl F l m n i) (fun _ _=>True) (fun n i p s hx _=>.inr ⟨(),?_,trivial⟩) (fun n s _=>?_) (by omega) (s0:=()) trivial
  ·have hi:i<l.length:=(List.getElem?_eq_some_iff.1 hx).1
   obtain ⟨a,b,c,d,e,f⟩:=h.ok p (List.mem_of_getElem? hx)
   have hc:Jy F (l.take i) (fun a0=>CI a0 p)=some false:=VO (by simp; omega) hF fun x QK=>by
    obtain ⟨j,hj⟩:=List.getElem?_of_mem QK
    have B9:j<i:=by have:=(List.getElem?_eq_some_iff.1 hj).1; simp at this; omega
    rw [List.getElem?_take,if_pos B9] at hj
    obtain ⟨h1,e1⟩:=List.getElem?_eq_some_iff.1 hj
    obtain ⟨h2,e2⟩:=List.getElem?_eq_some_iff.1 hx
    have:=List.pairwise_iff_getElem.1 h.mK j i h1 h2 B9
    rw [e1,e2] at this
    simp [CI]; omega
   have e1:decide (p.Index<0)=false:=by simp; omega
   have e2:decide (p.Index ≥ m)=false:=by simp; omega
   have e3:rY p.bE=some true:=by unfold rY; simp; omega
   have e4:rY p.cX=some true:=by unfold rY; simp; omega
   simp only [Gl,Nk,dM hx,if_true,cr hx,Option.bind_some,dt (show i<1000000 by omega),e1,e2,e3,e4,Bool.false_eq_true,if_false,Bool.not_true,Ez (Nat.le_of_lt hi),hc]
  ·simp only [Gl,Nk,dL,Bool.false_eq_true,if_false]
   exact ⟨_,rfl,rfl⟩
 exact e
structure kS (b:fG):Prop where
 li:b.cD=1
 mi:b.c6=3
 lm:0≤b.aY∧b.aY≤11
 mm:10≤b.bh∧b.bh≤60
 mo:0≤b.aV∧b.aV≤2
 tp:qj b.b5
 ob:qj b.aR
 rq:b.cV=[]
 pv:b.bC.length≤2
 pf:∀ f ∈ b.bC,f.Items.length≤100
theorem BH {F:Nat} {b:fG} (h:kS b) (hF:1000<F):DY F b=some 0:=by
 have h1:=h.lm; have h2:=h.mm; have h3:=h.mo; have h4:=h.tp.len; have h5:=h.ob.len; have h6:=h.pv
 unfold DY
 have t:∀ n:Int,0≤n→n≤200→rY n=some true:=fun n a b=>by unfold rY; simp; omega
 rw [h.li,h.mi,h.rq,t 1 (by omega) (by omega),t 3 (by omega) (by omega),t b.aY (by omega) (by omega),t b.bh (by omega) (by omega)]
 have e1:decide (b.aV<0)=false:=by simp; omega
 have e2:decide (b.aV > 12)=false:=by simp; omega
 simp only [Option.bind_some,Bool.not_true,Bool.false_eq_true,if_false,e1,e2,qk (F:=F) (m:=16) h.tp (by decide) hF,qk (F:=F) (m:=6) h.ob (by decide) hF]
 rw [if_neg (by simp; omega),if_neg (by decide),if_neg (by decide)]
 obtain ⟨G,rfl⟩:∃ k,F=k+1:=⟨F - 1,by omega⟩
 simp only [DB,HT,h.rq]
 rfl
end Go.Sh
namespace Go.Sh
open Go.L
abbrev JW (r:bM) (p:aq):Bool:=p.fx == r.Index
abbrev obj (r:bM) (p:aq):Bool:=p.cG == r.Index
def np (l:List ah) (f:bM→aq→Bool) (r:bM):ar:=ar.mk (l.map fun x=>cQ (f r) x.aH) r.bE r.cX
def CF (l:List ah) (m:Int) (f:bA):ar:=ar.mk (l.map (Fx f)) 0 m
abbrev Ev (b:fG) (l:List ah):List ar:=[ar.mk (l.map fun _=>1) 1 3,ar.mk (l.map total) b.aY b.bh]
abbrev sd (b:fG) (l:List ah) (q:List ar):List ar:=Ev b l++b.b5.map (np l JW)++b.aR.map (np l obj)++q++b.bC.map (CF l b.aV)
def Full (l:List ah) (q:List ar):Prop:=∀ i j a b,i<j→l[i]?=some a→l[j]?=some b→Hp a b=true→dX l.length i j ∈ q
theorem UC {F:Nat} {l:List ah} {b:fG} (hF:1000<F) (hl:l.length≤5) (hb:kS b) (hk:∀ x ∈ l,qu x) :
  cS (D6 F b l) (fun z=>z.2=0∧∃ q,ku l.length q∧q.length≤25∧Full l q∧z.1=sd b l q):=by
 have t1:=hb.tp.len; have t2:=hb.ob.len; have t3:=hb.pv
 unfold D6
 rw [BH hb hF]
 simp only [Option.bind_some,show ((0:Int) != 0)=false from rfl,Bool.false_eq_true,if_false]
 rw [if_neg (by simp; omega)]
 have tail : cS ((uA F l b.cD b.c6 (fun a0 => DS a0)).bind fun r9 => (uA F l b.aY b.bh (fun a0 => xf F a0)).bind fun fR => (Ii ([] : List ar) [r9, fR]).bind fun dS => Ei F b l F 0 dS)
   (fun z=>z.2=0∧∃ q,ku l.length q∧q.length≤25∧Full l q∧z.1=sd b l q):=by
  rw [hb.li,hb.mi,Eu (F:=F) (l:=l) (p:=fun a0=>DS a0) (fun _=>(1:Int)) (by omega) (by omega) (fun x _=>rfl),Eu (F:=F) (l:=l) (p:=fun a0=>xf F a0) total (by omega) (by omega) (fun x hx=>PZ (by omega) (hk x hx).1)]
  simp only [Option.bind_some,Ii]
  rw [dp (by simp)]
  simp only [Option.bind_some,List.nil_append]
  refine ca (a:=b.b5) (L:=Ei F b l) (fun i s=>s=Ev b l++(b.b5.take i).map (np l JW)) (fun n i f s hx hI=>.inr ⟨_,?_,rfl⟩) (fun n s hI=>?_) (by omega) (by simp)
  ·subst hI
   have hi:i<b.b5.length:=(List.getElem?_eq_some_iff.1 hx).1
   simp only [Ei,Dj,dM hx,if_true,cr hx,Option.bind_some,dt (show i<1000000 by omega)]
   rw [Eu (F:=F) (l:=l) (fun x=>cQ (JW f) x.aH) (by omega) (by omega) (fun x hm=>by
    unfold H7
    rw [yV (pf:=fun a0=>HX a0 f) (JW f) (by omega) (hk x hm).1 (fun p=>rfl)]; rfl)]
   simp only [Option.bind_some,Ii]
   rw [dp (by simp; omega)]
   simp only [Option.bind_some]
   rw [List.take_add_one,hx]
   simp [np]
  ·subst hI
   simp only [Ei,Dj,dL,Bool.false_eq_true,if_false,List.take_length]
   refine ca (a:=b.aR) (L:=wH F b l) (fun i s=>s=Ev b l++b.b5.map (np l JW)++(b.aR.take i).map (np l obj)) (fun n i f s hx hI=>.inr ⟨_,?_,rfl⟩) (fun n s hI=>?_) (by omega) (by simp)
   ·subst hI
    have hi:i<b.aR.length:=(List.getElem?_eq_some_iff.1 hx).1
    simp only [wH,Dk,dM hx,if_true,cr hx,Option.bind_some,dt (show i<1000000 by omega)]
    rw [Eu (F:=F) (l:=l) (fun x=>cQ (obj f) x.aH) (by omega) (by omega) (fun x hm=>by
     unfold H8
     rw [yV (pf:=fun a0=>HY a0 f) (obj f) (by omega) (hk x hm).1 (fun p=>rfl)]; rfl)]
    simp only [Option.bind_some,Ii]
    rw [dp (by simp; omega)]
    simp only [Option.bind_some]
    rw [List.take_add_one,hx]
    simp [np]
   ·subst hI
    simp only [wH,Dk,dL,Bool.false_eq_true,if_false,List.take_length]
    obtain ⟨G,hG⟩:∃ k,F=k+1:=⟨F - 1,by omega⟩
    have e4:∀ s,AV F b l F 0 s=(JC F s l).bind fun Ry=>Ej F b l F 0 Ry:=fun s=>by
     show AV F b l F 0 s=_
     rw [show AV F b l F=AV F b l (G+1) by rw [← hG]]
     simp only [AV,HW,hb.rq,List.length_nil,show decide ((0:Int)<((0:Nat):Int))=false by decide,Bool.false_eq_true,if_false]
    rw [e4]
    refine cS.bind (Pz (by omega) (by omega) (by simp; omega) (fun x hx=>(hk x hx).1)) fun Ry hr=>?_
    obtain ⟨q,rfl,hq,hq1,hq3⟩:=hr
    have hq2:q.length≤25:=Nat.le_trans hq1 (Nat.le_trans (Nat.mul_le_mul hl hl) (by decide))
    refine ca (a:=b.bC) (L:=Ej F b l) (fun i s=>s=Ev b l++b.b5.map (np l JW)++b.aR.map (np l obj)++q++(b.bC.take i).map (CF l b.aV)) (fun n i f s hx hI=>.inr ⟨_,?_,rfl⟩) (fun n s hI=>?_) (by omega) (by simp)
    ·subst hI
     have hi:i<b.bC.length:=(List.getElem?_eq_some_iff.1 hx).1
     have hff:=hb.pf f (List.mem_of_getElem? hx)
     simp only [Ej,Dl,dM hx,if_true,cr hx,Option.bind_some,dt (show i<1000000 by omega)]
     rw [Eu (F:=F) (l:=l) (Fx f) (by omega) (by omega) (fun x _=>by
      unfold H9 Ea Fx
      rw [Lf (by omega) (by omega)]
      simp only [Option.bind_some]
      by_cases h:bD.mk x.ID x.Version ∈ f.Items
      ·simp [h]
      ·simp [h])]
     simp only [Option.bind_some,Ii]
     rw [dp (by simp; omega)]
     simp only [Option.bind_some]
     rw [List.take_add_one,hx]
     simp [CF]
    ·subst hI
     simp only [Ej,Dl,dL,Bool.false_eq_true,if_false,List.take_length]
     rw [if_neg (by simp; omega)]
     exact ⟨_,rfl,rfl,q,hq,hq2,hq3,rfl⟩
 refine ca (a:=l) (L:=fun n i (_:Unit)=>wG F b l n i) (fun _ _=>True) (fun n i x s hx _=>.inr ?_) (fun n s _=>?_) (by omega) (s0:=()) trivial
 ·have hi:i<l.length:=(List.getElem?_eq_some_iff.1 hx).1
  simp only [wG,Di,dM hx,if_true,cr hx,Option.bind_some,dt (show i<1000000 by omega),lG (F:=F) (x:=x) (by omega),(hk x (List.mem_of_getElem? hx)).1,show ((0:Int) != 0)=false from rfl,Bool.false_eq_true,if_false]
  exact ⟨(),trivial,trivial⟩
 ·simp only [wG,Di,dL,Bool.false_eq_true,if_false]
  exact tail
structure yE (l:List ah) (b:fG) (P:cZ):Prop where
 n:P.aj.length=l.length
 c:∀ x ∈ P.aj,0≤x∧x≤10000
 rows:∃ q,ku l.length q∧q.length≤25∧Full l q∧P.Rows=sd b l q
theorem Jw {F:Nat} {l:List ah} {b:fG} {ql:List Int} (hF:1000<F) (hl:l.length≤5) (hb:kS b) (hk:∀ x ∈ l,qu x) (hc:ql.length=l.length) (hcs:∀ x ∈ ql,0≤x∧x≤10000) :
  cS (DQ F b l ql) (fun z=>z.2=0∧yE l b z.1):=by
 unfold DQ
 refine cS.bind (UC hF hl hb hk) fun r1 hr=>?_
 rw [if_neg (by simp [hr.1]),if_neg (by simp [hc])]
 refine ca (a:=ql) (L:=fun n i (_:Unit)=>GB ql r1 n i) (fun _ _=>True) (fun n i x s hx _=>.inr ?_) (fun n s _=>?_) (by omega) (s0:=()) trivial
 ·have hi:i<ql.length:=(List.getElem?_eq_some_iff.1 hx).1
  have Bl:=hcs x (List.mem_of_getElem? hx)
  have e1:(decide (x<0) || decide (x > 10000))=false:=by simp; omega
  simp only [GB,C0,dM hx,if_true,cr hx,Option.bind_some,dt (show i<1000000 by omega),e1,Bool.false_eq_true,if_false]
  exact ⟨(),trivial,trivial⟩
 ·simp only [GB,C0,dL,Bool.false_eq_true,if_false]
  rw [dp (by simp; omega)]
  exact ⟨_,rfl,rfl,⟨by simpa using hc,by simpa using hcs,hr.2⟩⟩
theorem yE.ok {l:List ah} {b:fG} {P:cZ} (h:yE l b P) (hl:l.length≤5) (hb:kS b) (hk:∀ x ∈ l,qu x):q9 P∧P.Rows.length≤40:=by
 obtain ⟨q,hq,hq1,_,hr⟩:=h.rows
 have t1:=hb.tp.len; have t2:=hb.ob.len; have t3:=hb.pv
 have hm:P.Rows.length≤40:=by rw [hr]; simp; omega
 have cs:∀ r ∈ P.Rows,r=ar.mk (l.map fun _=>1) 1 3 ∨ r=ar.mk (l.map total) b.aY b.bh ∨ (∃ f g,r=np l f g∧(g ∈ b.b5 ∨ g ∈ b.aR)) ∨ r ∈ q ∨ ∃ f ∈ b.bC,r=CF l b.aV f:=by
  intro r hm
  rw [hr] at hm
  simp only [sd,Ev,List.mem_append,List.mem_cons,List.mem_map,List.not_mem_nil,or_false] at hm
  rcases hm with ((((h | h) | ⟨f,hf,h⟩) | ⟨f,hf,h⟩) | h) | ⟨f,hf,h⟩
  ·exact .inl h
  ·exact .inr (.inl h)
  ·exact .inr (.inr (.inl ⟨_,_,h.symm,.inl hf⟩))
  ·exact .inr (.inr (.inl ⟨_,_,h.symm,.inr hf⟩))
  ·exact .inr (.inr (.inr (.inl h)))
  ·exact .inr (.inr (.inr (.inr ⟨f,hf,h.symm⟩)))
 refine ⟨⟨by rw [h.n]; omega,by omega,h.c,fun r hm=>?_,fun r hm=>?_,fun r hm=>?_⟩,hm⟩
 ·rcases cs r hm with rfl | rfl | ⟨f,g,rfl,_⟩ | hm | ⟨f,_,rfl⟩
  ·simp [h.n]
  ·simp [h.n]
  ·simp [np,h.n]
  ·obtain ⟨i,j,_,_,rfl⟩:=hq r hm; simp [dX,h.n]
  ·simp [CF,h.n]
 ·rcases cs r hm with rfl | rfl | ⟨f,g,rfl,_⟩ | hm | ⟨f,_,rfl⟩
  ·intro x hx; simp at hx; omega
  ·intro x hx
   obtain ⟨y,hy,rfl⟩:=List.mem_map.1 hx
   have:=hk y hy; unfold qu at this; omega
  ·intro x hx
   obtain ⟨y,hy,rfl⟩:=List.mem_map.1 hx
   obtain ⟨p1,p2⟩:=jq (hk y hy).1
   have:=pV (f g) (l:=y.aH) fun p hp=>by have:=p2 p hp; omega
   omega
  ·obtain ⟨i,j,_,_,rfl⟩:=hq r hm
   intro x hx; have:=Cz x hx; omega
  ·intro x hx
   obtain ⟨y,_,rfl⟩:=List.mem_map.1 hx
   have:=Hu f y; omega
 ·rcases cs r hm with rfl | rfl | ⟨f,g,rfl,hg⟩ | hm | ⟨f,_,rfl⟩
  ·simp
  ·have:=hb.lm; have:=hb.mm; show -1000000≤b.aY∧b.aY≤1000000∧-1000000≤b.bh∧b.bh≤1000000; omega
  ·have:0≤g.bE∧g.bE≤3∧4≤g.cX∧g.cX≤30:=by
    rcases hg with hg | hg
    ·have:=hb.tp.ok g hg; omega
    ·have:=hb.ob.ok g hg; omega
   show -1000000≤g.bE∧g.bE≤1000000∧-1000000≤g.cX∧g.cX≤1000000; omega
  ·obtain ⟨i,j,_,_,rfl⟩:=hq r hm
   simp [dX]
  ·have:=hb.mo; show -1000000≤(0:Int)∧(0:Int)≤1000000∧-1000000≤b.aV∧b.aV≤1000000; omega
end Go.Sh
namespace Go.Sh
open Go.L
structure Fit (l:List ah) (b:fG) (c:List Int):Prop where
 mK:iz l.length 0 c
 len:1≤c.length∧c.length≤3
 marks:b.aY≤dv (l.map total) c∧dv (l.map total) c≤b.bh
 tp:∀ r ∈ b.b5,r.bE≤dv (l.map fun x=>cQ (JW r) x.aH) c∧dv (l.map fun x=>cQ (JW r) x.aH) c≤r.cX
 ob:∀ r ∈ b.aR,r.bE≤dv (l.map fun x=>cQ (obj r) x.aH) c∧dv (l.map fun x=>cQ (obj r) x.aH) c≤r.cX
 en:∀ (i j:Nat) a d,i<j→l[i]?=some a→l[j]?=some d→(i:Int) ∈ c→(j:Int) ∈ c→Hp a d=false
theorem Cy {l:List ah}:∀ {c:List Int} {k:Nat},iz l.length k c→dv (l.map fun _=>1) c=(c.length:Int)
 | [],_,_=>rfl
 | x :: c,k,⟨j,h0,h1,h2,h3⟩=>by
  have:=Cy h3
  have e:oZ (l.map fun _=>(1:Int)) x=1:=by subst h0; simp [oZ,List.getD,h2]
  simp only [dv,e,this,List.length_cons]
  omega
theorem CA {n i j:Nat} (ra:i<j) (hj:j<n):∀ {c:List Int} {k:Nat},iz n k c→dv (dX n i j).bU c=(if (i:Int) ∈ c then 1 else 0)+(if (j:Int) ∈ c then 1 else 0)
 | [],_,_=>by simp [dv]
 | x :: c,k,⟨q,h0,h1,h2,h3⟩=>by
  subst h0
  have ih:=CA ra hj h3
  have e:oZ (dX n i j).bU (q:Int)=(if i=q then 1 else 0)+(if j=q then 1 else 0):=by
   simp only [oZ,dX,Int.toNat_natCast,List.getD,List.getElem?_set,List.length_set,List.length_replicate,List.getElem?_replicate]
   by_cases h4:j=q
   ·subst h4; simp [h2]; omega
   ·by_cases h5:i=q
    ·subst h5; simp [h4,h2]
    ·simp [h4,h5,h2]
  have nq:(q:Int) ∉ c:=fun hm=>by obtain ⟨q',e1,e2,_⟩:=h3.mem _ hm; omega
  simp only [dv,e,ih,List.mem_cons]
  by_cases h4:i=q
  ·subst h4
   have:¬ j=i:=by omega
   have h6:¬ (j:Int)=(i:Int):=by omega
   simp [nq,this,h6]
  ·by_cases h5:j=q
   ·subst h5
    have h6:¬ (i:Int)=(j:Int):=by omega
    simp [nq,h4,h6]
    exact Int.add_comm _ _
   ·have h6:¬ (i:Int)=(q:Int):=by omega
    have h7:¬ (j:Int)=(q:Int):=by omega
    simp [h4,h5,h6,h7]
theorem yE.fit {l:List ah} {b:fG} {P:cZ} {c:List Int} (h:yE l b P) (hc:iz P.aj.length 0 c) (hm:ko P c=true):Fit l b c:=by
 obtain ⟨q,hq,_,hf,hr⟩:=h.rows
 rw [h.n] at hc
 have key:∀ r ∈ sd b l q,r.bE≤dv r.bU c∧dv r.bU c≤r.cX:=fun r WI=>by
  have:=List.all_eq_true.1 hm r (by rw [hr]; exact WI)
  simp at this; omega
 have k1:=key (ar.mk (l.map fun _=>1) 1 3) (by simp)
 have k2:=key (ar.mk (l.map total) b.aY b.bh) (by simp)
 simp only [Cy hc] at k1
 refine ⟨hc,by omega,k2,fun r WI=>key (np l JW r) ?_,fun r WI=>key (np l obj r) ?_,fun i j a d ra hi hj hic hjc=>?_⟩
 ·simp only [sd,List.mem_append,List.mem_map]
  exact .inl (.inl (.inl (.inr ⟨r,WI,rfl⟩)))
 ·simp only [sd,List.mem_append,List.mem_map]
  exact .inl (.inl (.inr ⟨r,WI,rfl⟩))
 ·cases he:Hp a d with
  | false=>rfl
  | true =>
   have h1:=hf i j a d ra hi hj he
   have h2:=key _ (show dX l.length i j ∈ sd b l q by
    simp only [sd,List.mem_append]; exact .inl (.inr h1))
   rw [CA ra (List.getElem?_eq_some_iff.1 hj).1 hc] at h2
   simp only [hic,hjc,if_true,dX] at h2
   omega
def partsOf (l:List ah) (c:List Int):List aq:=c.flatMap fun i=>(l.getD i.toNat default).aH
theorem nk {l:List ah} (f:aq→Bool):∀ {c:List Int} {k:Nat},iz l.length k c→cQ f (partsOf l c)=dv (l.map fun x=>cQ f x.aH) c
 | [],_,_=>by simp [partsOf,cQ,dv]
 | x :: c,k,⟨j,h0,h1,h2,h3⟩=>by
  subst h0
  have ih:=nk f h3
  have e:oZ (l.map fun x=>cQ f x.aH) (j:Int)=cQ f l[j].aH:=Oz _ (by simp [h2])
  unfold partsOf at ih ⊢
  rw [List.flatMap_cons,qQ,ih,dv,e]
  simp [List.getD,h2]
theorem tY (x:ah):total x=cQ (fun _=>true) x.aH:=by
 unfold total cQ
 rw [List.filter_eq_self.2 (fun _ _=>rfl)]
theorem BL {x:ah} (h:iB x=0):1≤x.aH.length∧∀ p ∈ x.aH,F8 p=true:=by
 unfold iB at h
 split at h
 ·cases h
 ·split at h
  ·cases h
  ·split at h
   ·cases h
   ·split at h
    ·cases h
    ·rename_i h4
     split at h
     ·rename_i h5
      refine ⟨?_,fun p hp=>List.all_eq_true.1 h5 p hp⟩
      cases hx:x.aH with
      | nil=>simp [hx] at h4
      | cons p q=>simp
     ·cases h
theorem yX {l:List ah} {c:List Int} {p:aq} (hc:iz l.length 0 c) (h:p ∈ partsOf l c):∃ x ∈ l,p ∈ x.aH:=by
 obtain ⟨i,hi,hp⟩:=List.mem_flatMap.1 h
 obtain ⟨j,rfl,_,hj⟩:=hc.mem i hi
 refine ⟨l[j],List.getElem_mem hj,?_⟩
 simpa [List.getD,hj] using hp
theorem pT {l:List ah} (hk:∀ x ∈ l,qu x):∀ {c:List Int} {k:Nat},iz l.length k c→c.length≤(partsOf l c).length∧(partsOf l c).length≤6 * c.length
 | [],_,_=>by simp [partsOf]
 | x :: c,k,⟨j,h0,h1,h2,h3⟩=>by
  subst h0
  have ih:=pT hk h3
  have hx:=(hk l[j] (List.getElem_mem h2)).1
  have a:=(jq hx).1
  have b:=(BL hx).1
  unfold partsOf at ih ⊢
  have e:(l.getD ((j:Nat):Int).toNat default).aH=l[j].aH:=by simp [List.getD,h2]
  rw [List.flatMap_cons,List.length_append,e,List.length_cons]
  omega
end Go.Sh
