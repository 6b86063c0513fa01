import Derived.KernelRfl
import Derived.Test.YtmollikhdbaikaaGreatZFacts
import Derived.Test.YtmollikhdbaikaaGreatZSh
import Derived.Test.YtmollikhdbaikaaGreatZLb
set_option linter.unusedVariables false
set_option linter.unusedSimpArgs false
set_option maxRecDepth 100000
namespace Go.Proofs.YtmollikhdbaikaaGreat
open Go.L Go.Sh
theorem Eg (x y:aG):oZ Tryz.prog 43 [.I x.ID,.I x.Version] [.I y.ID,.I y.Version] (decide (x=y)):=by
 refine Rf (by kernel_rfl) rfl rfl (show rN Tryz.prog (9999+1) 43 _ _ _ from (Re (by kernel_rfl) (by kernel_rfl) (Er (v:=(.int .i64 x.ID)) (u:=(.int .i64 y.ID)) (by kernel_rfl) (fun w=>by kernel_rfl) (fun w=>by kernel_rfl) (Es (by kernel_rfl)) (Er (v:=(.int .i64 x.Version)) (u:=(.int .i64 y.Version)) (by kernel_rfl) (fun w=>by kernel_rfl) (fun w=>by kernel_rfl) (Es (by kernel_rfl)) Rb)))) ?_
 rw [Bool.eq_iff_iff]
 obtain ⟨_,_⟩:=x; obtain ⟨_,_⟩:=y
 simp [aG.mk.injEq,and_assoc]
theorem Eh (x y:aL):oZ Tryz.prog 61 [.I x.Time,.I x.Source,.I x.Seq] [.I y.Time,.I y.Source,.I y.Seq] (decide (x=y)):=by
 refine Rf (by kernel_rfl) rfl rfl (show rN Tryz.prog (9999+1) 61 _ _ _ from (Re (by kernel_rfl) (by kernel_rfl) (Er (v:=(.int .i64 x.Time)) (u:=(.int .i64 y.Time)) (by kernel_rfl) (fun w=>by kernel_rfl) (fun w=>by kernel_rfl) (Es (by kernel_rfl)) (Er (v:=(.int .i64 x.Source)) (u:=(.int .i64 y.Source)) (by kernel_rfl) (fun w=>by kernel_rfl) (fun w=>by kernel_rfl) (Es (by kernel_rfl)) (Er (v:=(.int .i64 x.Seq)) (u:=(.int .i64 y.Seq)) (by kernel_rfl) (fun w=>by kernel_rfl) (fun w=>by kernel_rfl) (Es (by kernel_rfl)) Rb))))) ?_
 rw [Bool.eq_iff_iff]
 obtain ⟨_,_,_⟩:=x; obtain ⟨_,_,_⟩:=y
 simp [aL.mk.injEq,and_assoc]
theorem Mt (x y:ao):oZ Tryz.prog 86 [.I x.Kind,.I x.Max,.I x.e5,.I x.cg,.I x.Options,.I x.Key] [.I y.Kind,.I y.Max,.I y.e5,.I y.cg,.I y.Options,.I y.Key] (decide (x=y)):=by
 refine Rf (by kernel_rfl) rfl rfl (show rN Tryz.prog (9999+1) 86 _ _ _ from (Re (by kernel_rfl) (by kernel_rfl) (Er (v:=(.int .i64 x.Kind)) (u:=(.int .i64 y.Kind)) (by kernel_rfl) (fun w=>by kernel_rfl) (fun w=>by kernel_rfl) (Es (by kernel_rfl)) (Er (v:=(.int .i64 x.Max)) (u:=(.int .i64 y.Max)) (by kernel_rfl) (fun w=>by kernel_rfl) (fun w=>by kernel_rfl) (Es (by kernel_rfl)) (Er (v:=(.int .i64 x.e5)) (u:=(.int .i64 y.e5)) (by kernel_rfl) (fun w=>by kernel_rfl) (fun w=>by kernel_rfl) (Es (by kernel_rfl)) (Er (v:=(.int .i64 x.cg)) (u:=(.int .i64 y.cg)) (by kernel_rfl) (fun w=>by kernel_rfl) (fun w=>by kernel_rfl) (Es (by kernel_rfl)) (Er (v:=(.int .i64 x.Options)) (u:=(.int .i64 y.Options)) (by kernel_rfl) (fun w=>by kernel_rfl) (fun w=>by kernel_rfl) (Es (by kernel_rfl)) (Er (v:=(.int .i64 x.Key)) (u:=(.int .i64 y.Key)) (by kernel_rfl) (fun w=>by kernel_rfl) (fun w=>by kernel_rfl) (Es (by kernel_rfl)) Rb)))))))) ?_
 rw [Bool.eq_iff_iff]
 obtain ⟨_,_,_,_,_,_⟩:=x; obtain ⟨_,_,_,_,_,_⟩:=y
 simp [ao.mk.injEq,and_assoc]
theorem qj:y1 Tryz.prog 76=some (3,78):=by kernel_rfl
theorem JE:y1 Tryz.prog 133=some (61,3):=by kernel_rfl
theorem p6:Iw Tryz.prog 3 (fun v=>∃ n,v=.int .i64 n):=S4 (by kernel_rfl)
theorem CP:wJ (LV.int .i64) (fun v=>∃ n,v=.int .i64 n):=V0
theorem Jc:Iw Tryz.prog 61 (fun v=>∃ x:aL,v=(fun x:aL=>Value.agg #[.int .i64 x.Time,.int .i64 x.Source,.int .i64 x.Seq]) x):=S5 (enc:=(fun x:aL=>Value.agg #[.int .i64 x.Time,.int .i64 x.Source,.int .i64 x.Seq])) Tryz.underlying61 (fun _ _=>rfl) (fun w em x=>by kernel_rfl) (fun x y w=>Rc (Eh x y) rfl rfl w) (fun x=>Ej (by simp) 9999)
theorem OR:wJ aL.lv (fun v=>∃ x:aL,v=(fun x:aL=>Value.agg #[.int .i64 x.Time,.int .i64 x.Source,.int .i64 x.Seq]) x):=⟨fun x=>⟨_,rfl,⟨x,rfl⟩,rfl⟩,fun x y h=>by obtain ⟨_,_,_⟩:=x; obtain ⟨_,_,_⟩:=y; simpa [aL.lv] using h⟩
end Go.Proofs.YtmollikhdbaikaaGreat
