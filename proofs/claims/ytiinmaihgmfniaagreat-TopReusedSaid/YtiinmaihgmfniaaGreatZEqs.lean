import Derived.KernelRfl
import Derived.Test.YtiinmaihgmfniaaGreatZFacts
import Derived.Test.YtiinmaihgmfniaaGreatZSh
import Derived.Test.YtiinmaihgmfniaaGreatZLb
set_option linter.unusedVariables false
set_option linter.unusedSimpArgs false
set_option maxRecDepth 100000
namespace Go.Proofs.YtiinmaihgmfniaaGreat
open Go.L Go.Sh
theorem Ob (x y:bE):pV Tryz.prog 40 [.I x.Time,.I x.Source,.I x.Seq] [.I y.Time,.I y.Source,.I y.Seq] (decide (x=y)):=by
 refine Wj (by kernel_rfl) rfl rfl (show tg Tryz.prog (9999+1) 40 _ _ _ from (Wi (by kernel_rfl) (by kernel_rfl) (Hx (v:=(.int .i64 x.Time)) (u:=(.int .i64 y.Time)) (by kernel_rfl) (fun w=>by kernel_rfl) (fun w=>by kernel_rfl) (Hy (by kernel_rfl)) (Hx (v:=(.int .i64 x.Source)) (u:=(.int .i64 y.Source)) (by kernel_rfl) (fun w=>by kernel_rfl) (fun w=>by kernel_rfl) (Hy (by kernel_rfl)) (Hx (v:=(.int .i64 x.Seq)) (u:=(.int .i64 y.Seq)) (by kernel_rfl) (fun w=>by kernel_rfl) (fun w=>by kernel_rfl) (Hy (by kernel_rfl)) Wg))))) ?_
 rw [Bool.eq_iff_iff]
 obtain ⟨_,_,_⟩:=x; obtain ⟨_,_,_⟩:=y
 simp [bE.mk.injEq,and_assoc]
theorem Mv (x y:aS):pV Tryz.prog 105 [.I x.ID,.I x.Version] [.I y.ID,.I y.Version] (decide (x=y)):=by
 refine Wj (by kernel_rfl) rfl rfl (show tg Tryz.prog (9999+1) 105 _ _ _ from (Wi (by kernel_rfl) (by kernel_rfl) (Hx (v:=(.int .i64 x.ID)) (u:=(.int .i64 y.ID)) (by kernel_rfl) (fun w=>by kernel_rfl) (fun w=>by kernel_rfl) (Hy (by kernel_rfl)) (Hx (v:=(.int .i64 x.Version)) (u:=(.int .i64 y.Version)) (by kernel_rfl) (fun w=>by kernel_rfl) (fun w=>by kernel_rfl) (Hy (by kernel_rfl)) Wg)))) ?_
 rw [Bool.eq_iff_iff]
 obtain ⟨_,_⟩:=x; obtain ⟨_,_⟩:=y
 simp [aS.mk.injEq,and_assoc]
theorem RU (x y:ag):pV Tryz.prog 185 [.I x.Kind,.I x.Max,.I x.gi,.I x.cU,.I x.Options,.I x.Key] [.I y.Kind,.I y.Max,.I y.gi,.I y.cU,.I y.Options,.I y.Key] (decide (x=y)):=by
 refine Wj (by kernel_rfl) rfl rfl (show tg Tryz.prog (9999+1) 185 _ _ _ from (Wi (by kernel_rfl) (by kernel_rfl) (Hx (v:=(.int .i64 x.Kind)) (u:=(.int .i64 y.Kind)) (by kernel_rfl) (fun w=>by kernel_rfl) (fun w=>by kernel_rfl) (Hy (by kernel_rfl)) (Hx (v:=(.int .i64 x.Max)) (u:=(.int .i64 y.Max)) (by kernel_rfl) (fun w=>by kernel_rfl) (fun w=>by kernel_rfl) (Hy (by kernel_rfl)) (Hx (v:=(.int .i64 x.gi)) (u:=(.int .i64 y.gi)) (by kernel_rfl) (fun w=>by kernel_rfl) (fun w=>by kernel_rfl) (Hy (by kernel_rfl)) (Hx (v:=(.int .i64 x.cU)) (u:=(.int .i64 y.cU)) (by kernel_rfl) (fun w=>by kernel_rfl) (fun w=>by kernel_rfl) (Hy (by kernel_rfl)) (Hx (v:=(.int .i64 x.Options)) (u:=(.int .i64 y.Options)) (by kernel_rfl) (fun w=>by kernel_rfl) (fun w=>by kernel_rfl) (Hy (by kernel_rfl)) (Hx (v:=(.int .i64 x.Key)) (u:=(.int .i64 y.Key)) (by kernel_rfl) (fun w=>by kernel_rfl) (fun w=>by kernel_rfl) (Hy (by kernel_rfl)) Wg)))))))) ?_
 rw [Bool.eq_iff_iff]
 obtain ⟨_,_,_,_,_,_⟩:=x; obtain ⟨_,_,_,_,_,_⟩:=y
 simp [ag.mk.injEq,and_assoc]
theorem ix:BM Tryz.prog 173=some (3,171):=by kernel_rfl
theorem NO:BM Tryz.prog 295=some (40,3):=by kernel_rfl
theorem lM:Ms Tryz.prog 3 (fun v=>∃ n,v=.int .i64 n):=Ya (by kernel_rfl)
theorem wQ:y9 (LV.int .i64) (fun v=>∃ n,v=.int .i64 n):=kfI
theorem M4:Ms Tryz.prog 40 (fun v=>∃ x:bE,v=(fun x:bE=>Value.agg #[.int .i64 x.Time,.int .i64 x.Source,.int .i64 x.Seq]) x):=Yb (enc:=(fun x:bE=>Value.agg #[.int .i64 x.Time,.int .i64 x.Source,.int .i64 x.Seq])) Tryz.underlying40 (fun _ _=>rfl) (fun w em x=>by kernel_rfl) (fun x y w=>Wh (Ob x y) rfl rfl w) (fun x=>Hn (by simp) 9999)
theorem TH:y9 bE.lv (fun v=>∃ x:bE,v=(fun x:bE=>Value.agg #[.int .i64 x.Time,.int .i64 x.Source,.int .i64 x.Seq]) x):=⟨fun x=>⟨_,rfl,⟨x,rfl⟩,rfl⟩,fun x y h=>by obtain ⟨_,_,_⟩:=x; obtain ⟨_,_,_⟩:=y; simpa [bE.lv] using h⟩
end Go.Proofs.YtiinmaihgmfniaaGreat
