import Derived.KernelRfl
import Derived.Test.YtiinmaihgmfniaaGreatZFacts
import Derived.Test.YtiinmaihgmfniaaGreatZSh
import Derived.Test.YtiinmaihgmfniaaGreatZLb
set_option linter.unusedVariables false
set_option linter.unusedSimpArgs false
set_option maxRecDepth 100000
namespace Go.Proofs.YtiinmaihgmfniaaGreat
open Go.L Go.Sh
theorem ae40 (x y:Gq10):AggEq Tryz.prog 40 [.I x.Time,.I x.Source,.I x.Seq] [.I y.Time,.I y.Source,.I y.Seq] (decide (x=y)):=by
 refine eqT (by kernel_rfl) rfl rfl (show EqRun Tryz.prog (9999+1) 40 _ _ _ from (eqS (by kernel_rfl) (by kernel_rfl) (eqC (v:=(.int .i64 x.Time)) (u:=(.int .i64 y.Time)) (by kernel_rfl) (fun w=>by kernel_rfl) (fun w=>by kernel_rfl) (eqI (by kernel_rfl)) (eqC (v:=(.int .i64 x.Source)) (u:=(.int .i64 y.Source)) (by kernel_rfl) (fun w=>by kernel_rfl) (fun w=>by kernel_rfl) (eqI (by kernel_rfl)) (eqC (v:=(.int .i64 x.Seq)) (u:=(.int .i64 y.Seq)) (by kernel_rfl) (fun w=>by kernel_rfl) (fun w=>by kernel_rfl) (eqI (by kernel_rfl)) eqN))))) ?_
 rw [Bool.eq_iff_iff]
 obtain ⟨_,_,_⟩:=x; obtain ⟨_,_,_⟩:=y
 simp [Gq10.mk.injEq,and_assoc]
theorem ae42 (x y:Gq4):AggEq Tryz.prog 42 [.I x.Candidate,.I x.Centre,.I x.Paper] [.I y.Candidate,.I y.Centre,.I y.Paper] (decide (x=y)):=by
 refine eqT (by kernel_rfl) rfl rfl (show EqRun Tryz.prog (9999+1) 42 _ _ _ from (eqS (by kernel_rfl) (by kernel_rfl) (eqC (v:=(.int .i64 x.Candidate)) (u:=(.int .i64 y.Candidate)) (by kernel_rfl) (fun w=>by kernel_rfl) (fun w=>by kernel_rfl) (eqI (by kernel_rfl)) (eqC (v:=(.int .i64 x.Centre)) (u:=(.int .i64 y.Centre)) (by kernel_rfl) (fun w=>by kernel_rfl) (fun w=>by kernel_rfl) (eqI (by kernel_rfl)) (eqC (v:=(.int .i64 x.Paper)) (u:=(.int .i64 y.Paper)) (by kernel_rfl) (fun w=>by kernel_rfl) (fun w=>by kernel_rfl) (eqI (by kernel_rfl)) eqN))))) ?_
 rw [Bool.eq_iff_iff]
 obtain ⟨_,_,_⟩:=x; obtain ⟨_,_,_⟩:=y
 simp [Gq4.mk.injEq,and_assoc]
theorem ae44 (x y:Gq5):AggEq Tryz.prog 44 [.I x.Stamp.Time,.I x.Stamp.Source,.I x.Stamp.Seq,.I x.Kind,.I x.Entry.Candidate,.I x.Entry.Centre,.I x.Entry.Paper,.I x.To] [.I y.Stamp.Time,.I y.Stamp.Source,.I y.Stamp.Seq,.I y.Kind,.I y.Entry.Candidate,.I y.Entry.Centre,.I y.Entry.Paper,.I y.To] (decide (x=y)):=by
 refine eqT (by kernel_rfl) rfl rfl (show EqRun Tryz.prog (9999+1) 44 _ _ _ from (eqS (by kernel_rfl) (by kernel_rfl) (eqC (v:=.agg #[.int .i64 x.Stamp.Time,.int .i64 x.Stamp.Source,.int .i64 x.Stamp.Seq]) (u:=.agg #[.int .i64 y.Stamp.Time,.int .i64 y.Stamp.Source,.int .i64 y.Stamp.Seq]) (by kernel_rfl) (fun w=>by kernel_rfl) (fun w=>by kernel_rfl) (eqS (by kernel_rfl) (by kernel_rfl) (eqC (v:=(.int .i64 x.Stamp.Time)) (u:=(.int .i64 y.Stamp.Time)) (by kernel_rfl) (fun w=>by kernel_rfl) (fun w=>by kernel_rfl) (eqI (by kernel_rfl)) (eqC (v:=(.int .i64 x.Stamp.Source)) (u:=(.int .i64 y.Stamp.Source)) (by kernel_rfl) (fun w=>by kernel_rfl) (fun w=>by kernel_rfl) (eqI (by kernel_rfl)) (eqC (v:=(.int .i64 x.Stamp.Seq)) (u:=(.int .i64 y.Stamp.Seq)) (by kernel_rfl) (fun w=>by kernel_rfl) (fun w=>by kernel_rfl) (eqI (by kernel_rfl)) eqN)))) (eqC (v:=(.int .i64 x.Kind)) (u:=(.int .i64 y.Kind)) (by kernel_rfl) (fun w=>by kernel_rfl) (fun w=>by kernel_rfl) (eqI (by kernel_rfl)) (eqC (v:=.agg #[.int .i64 x.Entry.Candidate,.int .i64 x.Entry.Centre,.int .i64 x.Entry.Paper]) (u:=.agg #[.int .i64 y.Entry.Candidate,.int .i64 y.Entry.Centre,.int .i64 y.Entry.Paper]) (by kernel_rfl) (fun w=>by kernel_rfl) (fun w=>by kernel_rfl) (eqS (by kernel_rfl) (by kernel_rfl) (eqC (v:=(.int .i64 x.Entry.Candidate)) (u:=(.int .i64 y.Entry.Candidate)) (by kernel_rfl) (fun w=>by kernel_rfl) (fun w=>by kernel_rfl) (eqI (by kernel_rfl)) (eqC (v:=(.int .i64 x.Entry.Centre)) (u:=(.int .i64 y.Entry.Centre)) (by kernel_rfl) (fun w=>by kernel_rfl) (fun w=>by kernel_rfl) (eqI (by kernel_rfl)) (eqC (v:=(.int .i64 x.Entry.Paper)) (u:=(.int .i64 y.Entry.Paper)) (by kernel_rfl) (fun w=>by kernel_rfl) (fun w=>by kernel_rfl) (eqI (by kernel_rfl)) eqN)))) (eqC (v:=(.int .i64 x.To)) (u:=(.int .i64 y.To)) (by kernel_rfl) (fun w=>by kernel_rfl) (fun w=>by kernel_rfl) (eqI (by kernel_rfl)) eqN)))))) ?_
 rw [Bool.eq_iff_iff]
 obtain ⟨⟨_,_,_⟩,_,⟨_,_,_⟩,_⟩:=x; obtain ⟨⟨_,_,_⟩,_,⟨_,_,_⟩,_⟩:=y
 simp [Gq5.mk.injEq,Gq10.mk.injEq,Gq4.mk.injEq,and_assoc]
theorem ae60 (x y:GNeed):AggEq Tryz.prog 60 [.I x.Candidate,.I x.Needs] [.I y.Candidate,.I y.Needs] (decide (x=y)):=by
 refine eqT (by kernel_rfl) rfl rfl (show EqRun Tryz.prog (9999+1) 60 _ _ _ from (eqS (by kernel_rfl) (by kernel_rfl) (eqC (v:=(.int .i64 x.Candidate)) (u:=(.int .i64 y.Candidate)) (by kernel_rfl) (fun w=>by kernel_rfl) (fun w=>by kernel_rfl) (eqI (by kernel_rfl)) (eqC (v:=(.int .i64 x.Needs)) (u:=(.int .i64 y.Needs)) (by kernel_rfl) (fun w=>by kernel_rfl) (fun w=>by kernel_rfl) (eqI (by kernel_rfl)) eqN)))) ?_
 rw [Bool.eq_iff_iff]
 obtain ⟨_,_⟩:=x; obtain ⟨_,_⟩:=y
 simp [GNeed.mk.injEq,and_assoc]
theorem tm295:tmap Tryz.prog 295=some (40,3):=by kernel_rfl
theorem kok40:KOk Tryz.prog 40 (fun v=>∃ x:Gq10,v=(fun x:Gq10=>Value.agg #[.int .i64 x.Time,.int .i64 x.Source,.int .i64 x.Seq]) x):=kokS (enc:=(fun x:Gq10=>Value.agg #[.int .i64 x.Time,.int .i64 x.Source,.int .i64 x.Seq])) Tryz.underlying40 (fun _ _=>rfl) (fun w em x=>by kernel_rfl) (fun x y w=>eqOf (ae40 x y) rfl rfl w) (fun x=>bits_agg (by simp) 9999)
theorem kf40:KeyF Gq10.lv (fun v=>∃ x:Gq10,v=(fun x:Gq10=>Value.agg #[.int .i64 x.Time,.int .i64 x.Source,.int .i64 x.Seq]) x):=⟨fun x=>⟨_,rfl,⟨x,rfl⟩,rfl⟩,fun x y h=>by obtain ⟨_,_,_⟩:=x; obtain ⟨_,_,_⟩:=y; simpa [Gq10.lv] using h⟩
end Go.Proofs.YtiinmaihgmfniaaGreat
