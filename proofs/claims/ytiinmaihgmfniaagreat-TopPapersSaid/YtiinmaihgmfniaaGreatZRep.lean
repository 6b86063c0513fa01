import Derived.Test.YtiinmaihgmfniaaGreatProg
import Derived.WalkKit
import Derived.Deep.LoopGhost
import Derived.Deep.RegionLaw
import Derived.Laws.CopyOwn
import Derived.Shelf.RegionOpenPlain
import Derived.Test.YtiinmaihgmfniaaGreatZLc
import Derived.Test.YtiinmaihgmfniaaGreatZFacts
import Derived.Test.YtiinmaihgmfniaaGreatZSort
set_option linter.unusedVariables false
set_option linter.unusedSimpArgs false
namespace Go.Proofs.YtiinmaihgmfniaaGreat
open Go.L Go.Shelf Go.RowKit Go.Lib
set_option maxHeartbeats 2000000 in
theorem Pp (x y:Nat) (hx:x<18446744073709551616) (hy:y<18446744073709551616) (w:World) :
  Calls Tryz.prog 105 #[.int .u64 x,.int .u64 y] w fun e w'=>e=.returned (.tuple #[.int .u64 ((x * y / 18446744073709551616:Nat):Int),.int .u64 ((x * y % 18446744073709551616:Nat):Int)])∧w'=w:=by
 have c64:Calls Tryz.prog 164 #[.int .u64 x,.int .u64 y] w _:=Any.bits_Mul64 Tryz.Pj x y hx hy w
 have afo:∀ args w,(callFunc 164 args).run Tryz.prog w=.ok (.enter 164 args) w:=enters_of Tryz.func164 (by kernel_rfl) rfl
 go_enter Tryz.func105,Tryz.ntmps105
 go_wp2_with (go_at_fn 164; refine c64.mono ?_; rintro e w' ⟨rfl,hw⟩; rw [hw])
 go_ret2
 exact ⟨rfl,rfl⟩
theorem Hm (w:World) (g off BO OF kF se:Nat) (ad:Addr) (cur cs:List Value) (w0:World) (hg:w.heap[g]?=some (.cells cur.toArray 3 (0,0))) (hn:cs.length=Nat.min kF BO)
  (hsrc:∀ j v,cs[j]?=some v→w.cell? (ad.add j)=some v) (hfit:off+cs.length≤cur.length) (h1:∀ v ∈ cs,v.oneCell'=true) (hb:Below g w0 w) :
  ∃ w2,(∀ ty,(Builtin.copy_ #[22,22] ty #[.slice (some ⟨g,off,none⟩) BO OF,.slice (some ad) kF se]).run Tryz.prog w=.ok (goInt cs.length) w2)∧w2.heap[g]?=some (.cells (splice cur off cs).toArray 3 (0,0))∧Below g w0 w2∧w2.drawn=w.drawn:=by
 by_cases h0:cs.length=0
 ·obtain rfl:cs=[]:=List.eq_nil_of_length_eq_zero h0
  exact ⟨w,fun ty=>run_copy_none (P:=Tryz.prog) w 22 22 ty 3 _ _ _ _ _ _ Tryz.underlying22 (by kernel_rfl) (by simpa using hn.symm),by simpa [splice] using hg,hb,rfl⟩
 ·exact ⟨_,fun ty=>run_copy_row (P:=Tryz.prog) w 22 22 ty 3 g off BO OF ad kF se cur.toArray 3 cs Tryz.underlying22 (by kernel_rfl) hg hn hsrc (by simpa using hfit) h1,by simpa [splice] using setRow_heap w g _ _ 3 _ hg,below_setRow hb (Nat.le_refl _) _,rfl⟩
theorem G5 (x:Int) {i n mm:Nat} (h:mm=min i (n - i)):splice (List.replicate i (Value.int .i64 x)++List.replicate (n - i) (Value.int .i64 0)) i (List.replicate mm (Value.int .i64 x))=List.replicate (i+mm) (Value.int .i64 x)++List.replicate (n - (i+mm)) (Value.int .i64 0):=by
 unfold splice
 rw [List.take_left' (by simp),List.length_replicate,← List.drop_drop,List.drop_left' (by simp),List.drop_replicate,← List.append_assoc,List.replicate_append_replicate,Nat.sub_sub]
theorem G4 (x:Int) (n:Nat):splice (List.replicate n (Value.int .i64 0)) 0 (List.replicate (min 1 n) (Value.int .i64 x))=List.replicate (min 1 n) (Value.int .i64 x)++List.replicate (n - min 1 n) (Value.int .i64 0):=by
 unfold splice
 simp
theorem Zi:Tryz.t3.zero=some (.int .i64 0):=by kernel_rfl
set_option maxHeartbeats 4000000 in
set_option maxRecDepth 100000 in
theorem adv (x:Int) (n:Nat) (hn:n≤1000000) (ad:Addr) (cap:Nat) (w:World) (hc:w.cell? ad=some (.int .i64 x)) :
  Calls Tryz.prog 54 #[.slice (some ad) 1 cap,.int .i64 (n:Int)] w fun en w'=>en=.returned (.slice (some ⟨w.heap.size,0,none⟩) n n)∧w'.heap[w.heap.size]?=some (.cells (List.replicate n (Value.int .i64 x)).toArray 3 (0,0))∧Below w.heap.size w w'∧w.drawn≤w'.drawn:=by
 have aay:∀ w,Calls Tryz.prog 105 #[.int .u64 1,.int .u64 (n:Int)] w fun e w'=>e=.returned (.tuple #[.int .u64 0,.int .u64 (n:Int)])∧w'=w:=fun w=>(Pp 1 n (by decide) (by omega) w).mono (by
  rintro e w' ⟨rfl,rfl⟩
  refine ⟨?_,rfl⟩
  rw [show 1 * n / 18446744073709551616=0 by omega,show 1 * n % 18446744073709551616=n by omega]; rfl)
 have afn:∀ args w,(callFunc 105 args).run Tryz.prog w=.ok (.enter 105 args) w:=enters_of Tryz.func105 (by kernel_rfl) rfl
 obtain ⟨cs,hcs⟩:∃ cs,cs=List.replicate (min 1 n) (Value.int .i64 x):=⟨_,rfl⟩
 have hcl:cs.length=min 1 n:=by rw [hcs]; simp
 obtain ⟨Z,hZ⟩:∃ Z,Z=List.replicate n (Value.int .i64 0):=⟨_,rfl⟩
 have hZl:Z.length=n:=by rw [hZ]; simp
 have hmk:∀ w',(Instr.makeSlice 22 (.int .i64 (n:Int)) (.int .i64 (n:Int))).run Tryz.prog w'=.ok (.slice (some ⟨w'.heap.size,0,none⟩) n n) (w'.alloc (.cells Z.toArray 3)):=by
  intro w'
  have e8:Tryz.t3.bytes=8:=by kernel_rfl
  have:=run_make (P:=Tryz.prog) w' 22 3 Tryz.t3 (.int .i64 0) Tryz.underlying22 rfl Zi .i64 .i64 (n:Int) (n:Int) (by omega) (Int.le_refl _) (by rw [e8]; omega) (by omega)
  rw [this]
  have e1:Tryz.t3.size=1:=by kernel_rfl
  simp only [Int.toNat_natCast,e1,Nat.mul_one]
  congr 3
  apply Array.ext'
  rw [hZ]
  apply List.ext_getElem
  ·simp [madeCells]
  ·intro j h1 h2; simp [madeCells,Value.cells,Nat.mod_one]
 have hu1:IntKind.u64.wrap (n:Int)=n:=by rw [IntKind.wrap_u64]; omega
 have hu2:IntKind.i64.wrap (n:Int)=n:=by rw [IntKind.wrap_i64]; omega
 have hp1:¬ ((n:Int)<0):=by omega
 have hp2:¬ (9223372036854775807<(n:Int)):=by omega
 have hgw:(w.alloc (.cells Z.toArray 3)).heap[w.heap.size]?=some (.cells Z.toArray 3 (0,0)):=heap_alloc_new w _
 have hbl:Below w.heap.size w (w.alloc (.cells Z.toArray 3)):=(Below.refl _ w).alloc (Nat.le_refl _) _
 have hca:(w.alloc (.cells Z.toArray 3)).cell? ad=some (.int .i64 x):=Lib.cell?_alloc_some _ hc
 have hcsrc:∀ j v,cs[j]?=some v→(w.alloc (.cells Z.toArray 3)).cell? (ad.add j)=some v:=by
  intro j v hv
  rw [hcs,List.getElem?_replicate] at hv
  split at hv
  ·have:j=0:=by omega
   subst this
   rw [← hv]; simpa [Addr.add,World.cell?] using hca
  ·cases hv
 have hc1:∀ v ∈ cs,v.oneCell'=true:=by
  intro v hv; rw [hcs] at hv; rw [List.eq_of_mem_replicate hv]; rfl
 have hcm:cs.length=Nat.min 1 n:=hcl
 have hfit:0+cs.length≤Z.length:=by rw [hcl,hZl]; omega
 obtain ⟨w2,hr2,hg2,hb2,hd2⟩:=Hm (w.alloc (.cells Z.toArray 3)) w.heap.size 0 n n 1 cap ad Z cs w hgw hcm hcsrc hfit hc1 hbl
 rw [hcl] at hr2
 have H1:Hid (Z=List.replicate n (Value.int .i64 0)∧cs=List.replicate (min 1 n) (Value.int .i64 x)):=⟨hZ,hcs⟩
 have H2:Hid (w2.heap[w.heap.size]?=some (.cells (splice Z 0 cs).toArray 3 (0,0))∧Below w.heap.size w w2∧w.drawn≤w2.drawn):=⟨hg2,hb2,Nat.le_of_eq hd2.symm⟩
 clear hZ hcs hcl hZl hcsrc hc1 hca hc hgw hbl hcm hfit hg2 hb2 hd2
 have mixed:Tryz.prog.follows .mixedOrders=true:=by kernel_rfl
 go_enter Tryz.func54,Tryz.ntmps54
 go_wp2_with (first | (go_at_fn 105; refine (aay _).mono ?_; rintro e w' ⟨rfl,hw⟩; rw [hw]) | simp only [hmk] | simp only [hr2])
 go_loopg [8] n (fun k p wr=>∃ i:Nat,p=.int .i64 (i:Int)∧i≤n∧n - i≤k∧(0<n→0<i)∧Hid (wr.heap[w.heap.size]?=some (.cells (List.replicate i (Value.int .i64 x)++List.replicate (n - i) (Value.int .i64 0)).toArray 3 (0,0))∧Below w.heap.size w wr∧w.drawn≤wr.drawn))
 case atStart =>
  obtain ⟨hZ,hcs⟩:=H1.out
  obtain ⟨hg2,hb2,hd2⟩:=H2.out
  refine ⟨min 1 n,rfl,by omega,by omega,by omega,?_,hb2,hd2⟩
  rw [hg2,hZ,hcs]
  rw [G4 x n]
 case round =>
  obtain ⟨i,hp,hin,hk,hi0,HR⟩:=hrel
  subst hp
  by_cases hlt:i<n
  ·have hi0:=hi0 (by omega)
   obtain ⟨U2,hcs2⟩:∃ U2,U2=List.replicate (min i (n - i)) (Value.int .i64 x):=⟨_,rfl⟩
   have hcl2:U2.length=min i (n - i):=by rw [hcs2]; simp
   obtain ⟨w3,hr3,hg3,hb3,hd3⟩:=Hm wr.drew w.heap.size i (n - i) (n - i) i n ⟨w.heap.size,0,none⟩ _ U2 w (show wr.drew.heap[w.heap.size]?=_ from HR.out.1) hcl2 (by
    intro j v hv
    rw [hcs2,List.getElem?_replicate] at hv
    split at hv
    ·rename_i hj
     have Bh:j<i:=Nat.lt_of_lt_of_le hj (Nat.min_le_left _ _)
     cases hv
     rw [Addr.add_lit]
     have hh:wr.drew.heap[w.heap.size]?=_:=HR.out.1
     simp only [World.cell?,hh,Nat.zero_add]
     rw [List.getElem?_toArray,List.getElem?_append_left (by simpa using Bh),List.getElem?_replicate,if_pos Bh]
     rfl
    ·cases hv) (by simp [hcl2]; omega) (by intro v hv; rw [hcs2] at hv; rw [List.eq_of_mem_replicate hv]; rfl) HR.out.2.1.drew
   rw [hcl2] at hr3
   obtain ⟨mm,hmm⟩:∃ mm,mm=min i (n - i):=⟨_,rfl⟩
   rw [← hmm] at hr3 hcs2
   have hw1:IntKind.i64.wrap ((i:Int)+(mm:Int))=(i:Int)+(mm:Int):=by rw [IntKind.wrap_i64]; omega
   have hq1:(i:Int)<(n:Int):=by omega
   have hq2:¬ (n=i):=by omega
   have hq3:(i:Int)≤(n:Int):=by omega
   have H3:Hid (U2=List.replicate mm (Value.int .i64 x)∧(w3.heap[w.heap.size]?=some (.cells (splice (List.replicate i (Value.int .i64 x)++List.replicate (n - i) (Value.int .i64 0)) i U2).toArray 3 (0,0)))∧Below w.heap.size w w3∧w.drawn≤w3.drawn):=⟨hcs2,hg3,hb3,by rw [hd3]; exact Nat.le_trans HR.out.2.2 (Nat.le_succ _)⟩
   have H4:Hid (n - i≤gk∧0<i∧mm=min i (n - i)):=⟨hk,hi0,hmm⟩
   have H5:Hid (∀ ty,(Builtin.copy_ #[22,22] ty #[.slice (some ⟨w.heap.size,i,none⟩) (n - i) (n - i),.slice (some ⟨w.heap.size,0,none⟩) i n]).run Tryz.prog wr.drew=.ok (goInt (mm:Nat)) w3):=hr3
   clear hmm hcs2 hcl2 hg3 hb3 hd3 hr3 hk hi0
   go_wp2
   go_region_law_o (refine lj rfl (.tmp 41) (.tmp 44) 22 22 rfl (.slice (some ⟨w.heap.size,i,none⟩) (n - i) (n - i)) (.slice (some ⟨w.heap.size,0,none⟩) i n) (by simp [Act.eval,Act.put]) (by simp [Act.eval,Act.put]) (H5.out _) ?_)
   go_wp2
   go_roundg (n - (i+mm))
   case measure=>have:=H4.out; omega
   case rel =>
    obtain ⟨hk,hi0,hmm⟩:=H4.out
    obtain ⟨hcs2,hg3,hb3,hd3⟩:=H3.out
    refine ⟨i+mm,?_,by omega,Nat.le_refl _,by omega,?_,hb3,hd3⟩
    ·simp [hw1]
    ·rw [hg3,hcs2]
     rw [G5 x hmm]
  ·obtain rfl:i=n:=by omega
   have hq1:¬ ((i:Int)<(i:Int)):=by omega
   clear hk hi0 hin hlt
   go_wp2
   go_ret
   exact ⟨rfl,by simpa using HR.out.1,HR.out.2.1,HR.out.2.2⟩
theorem Us (x:Int) (n:Nat) (hn:n≤1000000) (w w':World) (hh:w'.heap[w.heap.size]?=some (.cells (List.replicate n (Value.int .i64 x)).toArray 3 (0,0))) (hb:Below w.heap.size w w') (hd:w.drawn≤w'.drawn) :
  mJ w w' 3 1 (.slice none 0 0) (.slice (some ⟨w.heap.size,0,none⟩) n n) n (List.replicate n (Value.int .i64 x)):=by
 refine ⟨⟨by simp,.inr ⟨w.heap.size,n,_,rfl,Nat.zero_le _,hh,Nat.le_refl _,by simp only [maxLen]; omega,by simp,by simp⟩⟩,⟨hb.os,hb.tape,hb.output,hb.size,fun k hk _=>hb.block k hk⟩,fun b hb=>.inr (by simp [Value.ownBlock] at hb; omega),hd⟩
theorem Nu (id:Nat) {x n:Int} {r:List Int} (h:Es x n=some r):aF Tryz.prog 54 [.L [x],.I n] (Mem.of []) (.arr id r.length) (Mem.of [(id,.arr 3 1 (r.map LV.I))]):=by
 unfold Es at h
 split at h
 case isFalse=>cases h
 rename_i hb
 obtain ⟨k,rfl⟩:∃ k:Nat,n=(k:Int):=⟨n.toNat,by omega⟩
 have hr:List.replicate k x=r:=Option.some.inj h
 have hkn:k≤1000000:=by omega
 clear hb h
 intro c vs hm ha
 simp only [aD] at ha
 obtain ⟨v,fD,rfl,hv,v2,vs2,rfl,hv2,rfl⟩:=ha
 simp only [ao] at hv hv2
 subst hv2
 obtain ⟨a,cap,rfl,hcap,hnil,hp,hx⟩:=hv
 rcases hx with hx | ⟨b,off,us,rfl,hbl,hX,hl,hc,hra⟩
 ·cases hx
 simp only [List.map,aD,ao] at hl
 obtain ⟨u,ZH,rfl,rfl,rfl⟩:=hl
 have hce:c.w.cell? ⟨b,off,none⟩=some (.int .i64 x):=by simpa using hra 0 (.int .i64 x) (by simp [flat,Value.cells])
 refine (adv x k hkn ⟨b,off,none⟩ cap c.w hce).mono ?_
 rintro en w' ⟨rfl,hh,hbw,hdw⟩
 have om:=Us x k hkn c.w w' hh hbw hdw
 have hB:=hm.fresh (id:=id) rfl
 obtain ⟨c',hw,jP,h4,h5⟩:=hm.Bw (pr:=fun id=>Mem.of [] id ≠ .none) id (.arr 3 1 (r.map LV.I)) (.arr (.slice (some ⟨c.w.heap.size,0,none⟩) k k) 1 k []) w' om.grown.os om.grown.tape om.grown.output om.drawn om.grown.size
  (fun b hb _=>om.grown.block b hb (by simp [Value.ownBlock])) (fun b hb=>.inr (hb.elim (fun hb=>(om.jK b hb).elim (fun h=>by simp [Value.ownBlock] at h) (fun h=>h)) (fun hh=>by cases hh))) (by rw [hB]; trivial) (fun _ dA h0=>by rw [hB] at h0; cases h0)
  (fun c' hw hle hble=>by
   simp only [bo]
   refine ⟨.slice (some ⟨c.w.heap.size,0,none⟩) k k,r.map (Value.int .i64),by simp [← hr],by decide,?_,pw (fun x:Int=>x) r,?_,nm (fun x:Int=>x) r⟩
   ·rw [iL (fun x:Int=>x),hw]
    have:=om.own
    simpa [← hr] using this
   ·intro v hv
    obtain ⟨y,_,rfl⟩:=List.mem_map.1 hv
    exact ⟨rfl,fun z hz=>by simp [Value.cells] at hz; subst hz; rfl⟩)
 refine ⟨_,c',rfl,hw,?_,?_,h5.grow⟩
 ·exact h4
 ·simp only [ao]
  exact ⟨rfl,_,_,_,_,jP,by simp [← hr],fun _=>rfl⟩
end Go.Proofs.YtiinmaihgmfniaaGreat
