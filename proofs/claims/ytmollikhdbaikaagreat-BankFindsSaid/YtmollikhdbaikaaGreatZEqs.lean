import Derived.KernelRfl
import Derived.Test.YtmollikhdbaikaaGreatZFacts
import Derived.Test.YtmollikhdbaikaaGreatZSh
import Derived.Test.YtmollikhdbaikaaGreatZLb
set_option linter.unusedVariables false
set_option linter.unusedSimpArgs false
set_option maxRecDepth 100000
namespace Go.Proofs.YtmollikhdbaikaaGreat
open Go.L Go.Sh
theorem J6 (x y:bG):nQ Tryz.prog 43 [.I x.ID,.I x.Version] [.I y.ID,.I y.Version] (decide (x=y)):=by
 refine QO (by kernel_rfl) rfl rfl (show qu Tryz.prog (9999+1) 43 _ _ _ from (QN (by kernel_rfl) (by kernel_rfl) (BD (v:=(.int .i64 x.ID)) (u:=(.int .i64 y.ID)) (by kernel_rfl) (fun w=>by kernel_rfl) (fun w=>by kernel_rfl) (BF (by kernel_rfl)) (BD (v:=(.int .i64 x.Version)) (u:=(.int .i64 y.Version)) (by kernel_rfl) (fun w=>by kernel_rfl) (fun w=>by kernel_rfl) (BF (by kernel_rfl)) QM)))) ?_
 rw [Bool.eq_iff_iff]
 obtain ⟨_,_⟩:=x; obtain ⟨_,_⟩:=y
 simp [bG.mk.injEq,and_assoc]
theorem Et (x y:aL):nQ Tryz.prog 61 [.I x.Time,.I x.Source,.I x.Seq] [.I y.Time,.I y.Source,.I y.Seq] (decide (x=y)):=by
 refine QO (by kernel_rfl) rfl rfl (show qu Tryz.prog (9999+1) 61 _ _ _ from (QN (by kernel_rfl) (by kernel_rfl) (BD (v:=(.int .i64 x.Time)) (u:=(.int .i64 y.Time)) (by kernel_rfl) (fun w=>by kernel_rfl) (fun w=>by kernel_rfl) (BF (by kernel_rfl)) (BD (v:=(.int .i64 x.Source)) (u:=(.int .i64 y.Source)) (by kernel_rfl) (fun w=>by kernel_rfl) (fun w=>by kernel_rfl) (BF (by kernel_rfl)) (BD (v:=(.int .i64 x.Seq)) (u:=(.int .i64 y.Seq)) (by kernel_rfl) (fun w=>by kernel_rfl) (fun w=>by kernel_rfl) (BF (by kernel_rfl)) QM))))) ?_
 rw [Bool.eq_iff_iff]
 obtain ⟨_,_,_⟩:=x; obtain ⟨_,_,_⟩:=y
 simp [aL.mk.injEq,and_assoc]
theorem MK (x y:aq):nQ Tryz.prog 86 [.I x.Kind,.I x.Max,.I x.e6,.I x.ct,.I x.Options,.I x.Key] [.I y.Kind,.I y.Max,.I y.e6,.I y.ct,.I y.Options,.I y.Key] (decide (x=y)):=by
 refine QO (by kernel_rfl) rfl rfl (show qu Tryz.prog (9999+1) 86 _ _ _ from (QN (by kernel_rfl) (by kernel_rfl) (BD (v:=(.int .i64 x.Kind)) (u:=(.int .i64 y.Kind)) (by kernel_rfl) (fun w=>by kernel_rfl) (fun w=>by kernel_rfl) (BF (by kernel_rfl)) (BD (v:=(.int .i64 x.Max)) (u:=(.int .i64 y.Max)) (by kernel_rfl) (fun w=>by kernel_rfl) (fun w=>by kernel_rfl) (BF (by kernel_rfl)) (BD (v:=(.int .i64 x.e6)) (u:=(.int .i64 y.e6)) (by kernel_rfl) (fun w=>by kernel_rfl) (fun w=>by kernel_rfl) (BF (by kernel_rfl)) (BD (v:=(.int .i64 x.ct)) (u:=(.int .i64 y.ct)) (by kernel_rfl) (fun w=>by kernel_rfl) (fun w=>by kernel_rfl) (BF (by kernel_rfl)) (BD (v:=(.int .i64 x.Options)) (u:=(.int .i64 y.Options)) (by kernel_rfl) (fun w=>by kernel_rfl) (fun w=>by kernel_rfl) (BF (by kernel_rfl)) (BD (v:=(.int .i64 x.Key)) (u:=(.int .i64 y.Key)) (by kernel_rfl) (fun w=>by kernel_rfl) (fun w=>by kernel_rfl) (BF (by kernel_rfl)) QM)))))))) ?_
 rw [Bool.eq_iff_iff]
 obtain ⟨_,_,_,_,_,_⟩:=x; obtain ⟨_,_,_,_,_,_⟩:=y
 simp [aq.mk.injEq,and_assoc]
theorem Rv (x y:ay):nQ Tryz.prog 88 [.I x.Version,.I x.Form,.I x.Time] [.I y.Version,.I y.Form,.I y.Time] (decide (x=y)):=by
 refine QO (by kernel_rfl) rfl rfl (show qu Tryz.prog (9999+1) 88 _ _ _ from (QN (by kernel_rfl) (by kernel_rfl) (BD (v:=(.int .i64 x.Version)) (u:=(.int .i64 y.Version)) (by kernel_rfl) (fun w=>by kernel_rfl) (fun w=>by kernel_rfl) (BF (by kernel_rfl)) (BD (v:=(.int .i64 x.Form)) (u:=(.int .i64 y.Form)) (by kernel_rfl) (fun w=>by kernel_rfl) (fun w=>by kernel_rfl) (BF (by kernel_rfl)) (BD (v:=(.int .i64 x.Time)) (u:=(.int .i64 y.Time)) (by kernel_rfl) (fun w=>by kernel_rfl) (fun w=>by kernel_rfl) (BF (by kernel_rfl)) QM))))) ?_
 rw [Bool.eq_iff_iff]
 obtain ⟨_,_,_⟩:=x; obtain ⟨_,_,_⟩:=y
 simp [ay.mk.injEq,and_assoc]
theorem qp:zg Tryz.prog 76=some (3,78):=by kernel_rfl
theorem JX:zg Tryz.prog 133=some (61,3):=by kernel_rfl
theorem qc:IN Tryz.prog 3 (fun v=>∃ n,v=.int .i64 n):=Ts (by kernel_rfl)
theorem C5:xf (LV.int .i64) (fun v=>∃ n,v=.int .i64 n):=Wo
theorem Jt:IN Tryz.prog 61 (fun v=>∃ x:aL,v=(fun x:aL=>Value.agg #[.int .i64 x.Time,.int .i64 x.Source,.int .i64 x.Seq]) x):=Tt (enc:=(fun x:aL=>Value.agg #[.int .i64 x.Time,.int .i64 x.Source,.int .i64 x.Seq])) Tryz.underlying61 (fun _ _=>rfl) (fun w em x=>by kernel_rfl) (fun x y w=>RD (Et x y) rfl rfl w) (fun x=>Ev (by simp) 9999)
theorem Pe:xf aL.lv (fun v=>∃ x:aL,v=(fun x:aL=>Value.agg #[.int .i64 x.Time,.int .i64 x.Source,.int .i64 x.Seq]) x):=⟨fun x=>⟨_,rfl,⟨x,rfl⟩,rfl⟩,fun x y h=>by obtain ⟨_,_,_⟩:=x; obtain ⟨_,_,_⟩:=y; simpa [aL.lv] using h⟩
end Go.Proofs.YtmollikhdbaikaaGreat
