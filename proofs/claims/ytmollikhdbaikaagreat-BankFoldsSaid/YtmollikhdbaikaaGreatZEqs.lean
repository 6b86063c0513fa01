import Derived.KernelRfl
import Derived.Test.YtmollikhdbaikaaGreatZFacts
import Derived.Test.YtmollikhdbaikaaGreatZSh
import Derived.Test.YtmollikhdbaikaaGreatZLb
set_option linter.unusedVariables false
set_option linter.unusedSimpArgs false
set_option maxRecDepth 100000
namespace Go.Proofs.YtmollikhdbaikaaGreat
open Go.L Go.Sh
theorem ae43 (x y:GRef):AggEq Tryz.prog 43 [.I x.ID,.I x.Version] [.I y.ID,.I y.Version] (decide (x=y)):=by
 refine eqT (by kernel_rfl) rfl rfl (show EqRun Tryz.prog (9999+1) 43 _ _ _ from (eqS (by kernel_rfl) (by kernel_rfl) (eqC (v:=(.int .i64 x.ID)) (u:=(.int .i64 y.ID)) (by kernel_rfl) (fun w=>by kernel_rfl) (fun w=>by kernel_rfl) (eqI (by kernel_rfl)) (eqC (v:=(.int .i64 x.Version)) (u:=(.int .i64 y.Version)) (by kernel_rfl) (fun w=>by kernel_rfl) (fun w=>by kernel_rfl) (eqI (by kernel_rfl)) eqN)))) ?_
 rw [Bool.eq_iff_iff]
 obtain ⟨_,_⟩:=x; obtain ⟨_,_⟩:=y
 simp [GRef.mk.injEq,and_assoc]
theorem ae61 (x y:Gq4):AggEq Tryz.prog 61 [.I x.Time,.I x.Source,.I x.Seq] [.I y.Time,.I y.Source,.I y.Seq] (decide (x=y)):=by
 refine eqT (by kernel_rfl) rfl rfl (show EqRun Tryz.prog (9999+1) 61 _ _ _ from (eqS (by kernel_rfl) (by kernel_rfl) (eqC (v:=(.int .i64 x.Time)) (u:=(.int .i64 y.Time)) (by kernel_rfl) (fun w=>by kernel_rfl) (fun w=>by kernel_rfl) (eqI (by kernel_rfl)) (eqC (v:=(.int .i64 x.Source)) (u:=(.int .i64 y.Source)) (by kernel_rfl) (fun w=>by kernel_rfl) (fun w=>by kernel_rfl) (eqI (by kernel_rfl)) (eqC (v:=(.int .i64 x.Seq)) (u:=(.int .i64 y.Seq)) (by kernel_rfl) (fun w=>by kernel_rfl) (fun w=>by kernel_rfl) (eqI (by kernel_rfl)) eqN))))) ?_
 rw [Bool.eq_iff_iff]
 obtain ⟨_,_,_⟩:=x; obtain ⟨_,_,_⟩:=y
 simp [Gq4.mk.injEq,and_assoc]
theorem ae84 (x y:Gq3):AggEq Tryz.prog 84 [.I x.Event.Source,.I x.Event.Seq,.I x.Code] [.I y.Event.Source,.I y.Event.Seq,.I y.Code] (decide (x=y)):=by
 refine eqT (by kernel_rfl) rfl rfl (show EqRun Tryz.prog (9999+1) 84 _ _ _ from (eqS (by kernel_rfl) (by kernel_rfl) (eqC (v:=.agg #[.int .i64 x.Event.Source,.int .i64 x.Event.Seq]) (u:=.agg #[.int .i64 y.Event.Source,.int .i64 y.Event.Seq]) (by kernel_rfl) (fun w=>by kernel_rfl) (fun w=>by kernel_rfl) (eqS (by kernel_rfl) (by kernel_rfl) (eqC (v:=(.int .i64 x.Event.Source)) (u:=(.int .i64 y.Event.Source)) (by kernel_rfl) (fun w=>by kernel_rfl) (fun w=>by kernel_rfl) (eqI (by kernel_rfl)) (eqC (v:=(.int .i64 x.Event.Seq)) (u:=(.int .i64 y.Event.Seq)) (by kernel_rfl) (fun w=>by kernel_rfl) (fun w=>by kernel_rfl) (eqI (by kernel_rfl)) eqN))) (eqC (v:=(.int .i64 x.Code)) (u:=(.int .i64 y.Code)) (by kernel_rfl) (fun w=>by kernel_rfl) (fun w=>by kernel_rfl) (eqI (by kernel_rfl)) eqN)))) ?_
 rw [Bool.eq_iff_iff]
 obtain ⟨⟨_,_⟩,_⟩:=x; obtain ⟨⟨_,_⟩,_⟩:=y
 simp [Gq3.mk.injEq,Gq1.mk.injEq,and_assoc]
theorem ae86 (x y:GPart):AggEq Tryz.prog 86 [.I x.Kind,.I x.Max,.I x.Topic,.I x.Objective,.I x.Options,.I x.Key] [.I y.Kind,.I y.Max,.I y.Topic,.I y.Objective,.I y.Options,.I y.Key] (decide (x=y)):=by
 refine eqT (by kernel_rfl) rfl rfl (show EqRun Tryz.prog (9999+1) 86 _ _ _ from (eqS (by kernel_rfl) (by kernel_rfl) (eqC (v:=(.int .i64 x.Kind)) (u:=(.int .i64 y.Kind)) (by kernel_rfl) (fun w=>by kernel_rfl) (fun w=>by kernel_rfl) (eqI (by kernel_rfl)) (eqC (v:=(.int .i64 x.Max)) (u:=(.int .i64 y.Max)) (by kernel_rfl) (fun w=>by kernel_rfl) (fun w=>by kernel_rfl) (eqI (by kernel_rfl)) (eqC (v:=(.int .i64 x.Topic)) (u:=(.int .i64 y.Topic)) (by kernel_rfl) (fun w=>by kernel_rfl) (fun w=>by kernel_rfl) (eqI (by kernel_rfl)) (eqC (v:=(.int .i64 x.Objective)) (u:=(.int .i64 y.Objective)) (by kernel_rfl) (fun w=>by kernel_rfl) (fun w=>by kernel_rfl) (eqI (by kernel_rfl)) (eqC (v:=(.int .i64 x.Options)) (u:=(.int .i64 y.Options)) (by kernel_rfl) (fun w=>by kernel_rfl) (fun w=>by kernel_rfl) (eqI (by kernel_rfl)) (eqC (v:=(.int .i64 x.Key)) (u:=(.int .i64 y.Key)) (by kernel_rfl) (fun w=>by kernel_rfl) (fun w=>by kernel_rfl) (eqI (by kernel_rfl)) eqN)))))))) ?_
 rw [Bool.eq_iff_iff]
 obtain ⟨_,_,_,_,_,_⟩:=x; obtain ⟨_,_,_,_,_,_⟩:=y
 simp [GPart.mk.injEq,and_assoc]
theorem ae88 (x y:GUse):AggEq Tryz.prog 88 [.I x.Version,.I x.Form,.I x.Time] [.I y.Version,.I y.Form,.I y.Time] (decide (x=y)):=by
 refine eqT (by kernel_rfl) rfl rfl (show EqRun Tryz.prog (9999+1) 88 _ _ _ from (eqS (by kernel_rfl) (by kernel_rfl) (eqC (v:=(.int .i64 x.Version)) (u:=(.int .i64 y.Version)) (by kernel_rfl) (fun w=>by kernel_rfl) (fun w=>by kernel_rfl) (eqI (by kernel_rfl)) (eqC (v:=(.int .i64 x.Form)) (u:=(.int .i64 y.Form)) (by kernel_rfl) (fun w=>by kernel_rfl) (fun w=>by kernel_rfl) (eqI (by kernel_rfl)) (eqC (v:=(.int .i64 x.Time)) (u:=(.int .i64 y.Time)) (by kernel_rfl) (fun w=>by kernel_rfl) (fun w=>by kernel_rfl) (eqI (by kernel_rfl)) eqN))))) ?_
 rw [Bool.eq_iff_iff]
 obtain ⟨_,_,_⟩:=x; obtain ⟨_,_,_⟩:=y
 simp [GUse.mk.injEq,and_assoc]
theorem tm76:tmap Tryz.prog 76=some (3,78):=by kernel_rfl
theorem tm133:tmap Tryz.prog 133=some (61,3):=by kernel_rfl
theorem kok3:KOk Tryz.prog 3 (fun v=>∃ n,v=.int .i64 n):=kokI (by kernel_rfl)
theorem kf3:KeyF (LV.int .i64) (fun v=>∃ n,v=.int .i64 n):=kfI
theorem kok61:KOk Tryz.prog 61 (fun v=>∃ x:Gq4,v=(fun x:Gq4=>Value.agg #[.int .i64 x.Time,.int .i64 x.Source,.int .i64 x.Seq]) x):=kokS (enc:=(fun x:Gq4=>Value.agg #[.int .i64 x.Time,.int .i64 x.Source,.int .i64 x.Seq])) Tryz.underlying61 (fun _ _=>rfl) (fun w em x=>by kernel_rfl) (fun x y w=>eqOf (ae61 x y) rfl rfl w) (fun x=>bits_agg (by simp) 9999)
theorem kf61:KeyF Gq4.lv (fun v=>∃ x:Gq4,v=(fun x:Gq4=>Value.agg #[.int .i64 x.Time,.int .i64 x.Source,.int .i64 x.Seq]) x):=⟨fun x=>⟨_,rfl,⟨x,rfl⟩,rfl⟩,fun x y h=>by obtain ⟨_,_,_⟩:=x; obtain ⟨_,_,_⟩:=y; simpa [Gq4.lv] using h⟩
end Go.Proofs.YtmollikhdbaikaaGreat
