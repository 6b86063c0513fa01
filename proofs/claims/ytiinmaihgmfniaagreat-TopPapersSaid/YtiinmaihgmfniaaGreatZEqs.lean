import Derived.KernelRfl
import Derived.Test.YtiinmaihgmfniaaGreatZFacts
import Derived.Test.YtiinmaihgmfniaaGreatZSh
import Derived.Test.YtiinmaihgmfniaaGreatZLb
set_option linter.unusedVariables false
set_option linter.unusedSimpArgs false
set_option maxRecDepth 100000
namespace Go.Proofs.YtiinmaihgmfniaaGreat
open Go.L Go.Sh
theorem RZ (x y:bJ):rk Tryz.prog 40 [.I x.Time,.I x.Source,.I x.Seq] [.I y.Time,.I y.Source,.I y.Seq] (decide (x=y)):=by
 refine eqT (by kernel_rfl) rfl rfl (show u5 Tryz.prog (9999+1) 40 _ _ _ from (eqS (by kernel_rfl) (by kernel_rfl) (K2 (v:=(.int .i64 x.Time)) (u:=(.int .i64 y.Time)) (by kernel_rfl) (fun w=>by kernel_rfl) (fun w=>by kernel_rfl) (K3 (by kernel_rfl)) (K2 (v:=(.int .i64 x.Source)) (u:=(.int .i64 y.Source)) (by kernel_rfl) (fun w=>by kernel_rfl) (fun w=>by kernel_rfl) (K3 (by kernel_rfl)) (K2 (v:=(.int .i64 x.Seq)) (u:=(.int .i64 y.Seq)) (by kernel_rfl) (fun w=>by kernel_rfl) (fun w=>by kernel_rfl) (K3 (by kernel_rfl)) eqN))))) ?_
 rw [Bool.eq_iff_iff]
 obtain ⟨_,_,_⟩:=x; obtain ⟨_,_,_⟩:=y
 simp [bJ.mk.injEq,and_assoc]
theorem Qi (x y:bD):rk Tryz.prog 105 [.I x.ID,.I x.Version] [.I y.ID,.I y.Version] (decide (x=y)):=by
 refine eqT (by kernel_rfl) rfl rfl (show u5 Tryz.prog (9999+1) 105 _ _ _ from (eqS (by kernel_rfl) (by kernel_rfl) (K2 (v:=(.int .i64 x.ID)) (u:=(.int .i64 y.ID)) (by kernel_rfl) (fun w=>by kernel_rfl) (fun w=>by kernel_rfl) (K3 (by kernel_rfl)) (K2 (v:=(.int .i64 x.Version)) (u:=(.int .i64 y.Version)) (by kernel_rfl) (fun w=>by kernel_rfl) (fun w=>by kernel_rfl) (K3 (by kernel_rfl)) eqN)))) ?_
 rw [Bool.eq_iff_iff]
 obtain ⟨_,_⟩:=x; obtain ⟨_,_⟩:=y
 simp [bD.mk.injEq,and_assoc]
theorem VI (x y:aq):rk Tryz.prog 185 [.I x.Kind,.I x.Max,.I x.fx,.I x.cG,.I x.Options,.I x.Key] [.I y.Kind,.I y.Max,.I y.fx,.I y.cG,.I y.Options,.I y.Key] (decide (x=y)):=by
 refine eqT (by kernel_rfl) rfl rfl (show u5 Tryz.prog (9999+1) 185 _ _ _ from (eqS (by kernel_rfl) (by kernel_rfl) (K2 (v:=(.int .i64 x.Kind)) (u:=(.int .i64 y.Kind)) (by kernel_rfl) (fun w=>by kernel_rfl) (fun w=>by kernel_rfl) (K3 (by kernel_rfl)) (K2 (v:=(.int .i64 x.Max)) (u:=(.int .i64 y.Max)) (by kernel_rfl) (fun w=>by kernel_rfl) (fun w=>by kernel_rfl) (K3 (by kernel_rfl)) (K2 (v:=(.int .i64 x.fx)) (u:=(.int .i64 y.fx)) (by kernel_rfl) (fun w=>by kernel_rfl) (fun w=>by kernel_rfl) (K3 (by kernel_rfl)) (K2 (v:=(.int .i64 x.cG)) (u:=(.int .i64 y.cG)) (by kernel_rfl) (fun w=>by kernel_rfl) (fun w=>by kernel_rfl) (K3 (by kernel_rfl)) (K2 (v:=(.int .i64 x.Options)) (u:=(.int .i64 y.Options)) (by kernel_rfl) (fun w=>by kernel_rfl) (fun w=>by kernel_rfl) (K3 (by kernel_rfl)) (K2 (v:=(.int .i64 x.Key)) (u:=(.int .i64 y.Key)) (by kernel_rfl) (fun w=>by kernel_rfl) (fun w=>by kernel_rfl) (K3 (by kernel_rfl)) eqN)))))))) ?_
 rw [Bool.eq_iff_iff]
 obtain ⟨_,_,_,_,_,_⟩:=x; obtain ⟨_,_,_,_,_,_⟩:=y
 simp [aq.mk.injEq,and_assoc]
theorem nw:uI Tryz.prog 173=some (3,171):=by kernel_rfl
theorem EO:uI Tryz.prog 199=some (3,4):=by kernel_rfl
theorem RG:uI Tryz.prog 200=some (3,3):=by kernel_rfl
theorem RH:uI Tryz.prog 295=some (40,3):=by kernel_rfl
theorem oL:Ox Tryz.prog 3 (fun v=>∃ n,v=.int .i64 n):=ada (by kernel_rfl)
theorem Bp:Ae (LV.int .i64) (fun v=>∃ n,v=.int .i64 n):=kfI
theorem QU:Ox Tryz.prog 40 (fun v=>∃ x:bJ,v=(fun x:bJ=>Value.agg #[.int .i64 x.Time,.int .i64 x.Source,.int .i64 x.Seq]) x):=adb (enc:=(fun x:bJ=>Value.agg #[.int .i64 x.Time,.int .i64 x.Source,.int .i64 x.Seq])) Tryz.underlying40 (fun _ _=>rfl) (fun w em x=>by kernel_rfl) (fun x y w=>aaE (RZ x y) rfl rfl w) (fun x=>KP (by simp) 9999)
theorem XL:Ae bJ.lv (fun v=>∃ x:bJ,v=(fun x:bJ=>Value.agg #[.int .i64 x.Time,.int .i64 x.Source,.int .i64 x.Seq]) x):=⟨fun x=>⟨_,rfl,⟨x,rfl⟩,rfl⟩,fun x y h=>by obtain ⟨_,_,_⟩:=x; obtain ⟨_,_,_⟩:=y; simpa [bJ.lv] using h⟩
end Go.Proofs.YtiinmaihgmfniaaGreat
