import Derived.KernelRfl
import Derived.Test.YtmollikhdbaikaaGreatZFacts
import Derived.Test.YtmollikhdbaikaaGreatZSh
import Derived.Test.YtmollikhdbaikaaGreatZLb
set_option linter.unusedVariables false
set_option linter.unusedSimpArgs false
set_option maxRecDepth 100000
namespace Go.Proofs.YtmollikhdbaikaaGreat
open Go.L Go.Sh
theorem Ks (x y:bR):oh Tryz.prog 43 [.I x.ID,.I x.Version] [.I y.ID,.I y.Version] (decide (x=y)):=by
 refine Rg (by kernel_rfl) rfl rfl (show qK Tryz.prog (9999+1) 43 _ _ _ from (Rf (by kernel_rfl) (by kernel_rfl) (BV (v:=(.int .i64 x.ID)) (u:=(.int .i64 y.ID)) (by kernel_rfl) (fun w=>by kernel_rfl) (fun w=>by kernel_rfl) (BW (by kernel_rfl)) (BV (v:=(.int .i64 x.Version)) (u:=(.int .i64 y.Version)) (by kernel_rfl) (fun w=>by kernel_rfl) (fun w=>by kernel_rfl) (BW (by kernel_rfl)) Re)))) ?_
 rw [Bool.eq_iff_iff]
 obtain ⟨_,_⟩:=x; obtain ⟨_,_⟩:=y
 simp [bR.mk.injEq,and_assoc]
theorem EG (x y:aL):oh Tryz.prog 61 [.I x.Time,.I x.Source,.I x.Seq] [.I y.Time,.I y.Source,.I y.Seq] (decide (x=y)):=by
 refine Rg (by kernel_rfl) rfl rfl (show qK Tryz.prog (9999+1) 61 _ _ _ from (Rf (by kernel_rfl) (by kernel_rfl) (BV (v:=(.int .i64 x.Time)) (u:=(.int .i64 y.Time)) (by kernel_rfl) (fun w=>by kernel_rfl) (fun w=>by kernel_rfl) (BW (by kernel_rfl)) (BV (v:=(.int .i64 x.Source)) (u:=(.int .i64 y.Source)) (by kernel_rfl) (fun w=>by kernel_rfl) (fun w=>by kernel_rfl) (BW (by kernel_rfl)) (BV (v:=(.int .i64 x.Seq)) (u:=(.int .i64 y.Seq)) (by kernel_rfl) (fun w=>by kernel_rfl) (fun w=>by kernel_rfl) (BW (by kernel_rfl)) Re))))) ?_
 rw [Bool.eq_iff_iff]
 obtain ⟨_,_,_⟩:=x; obtain ⟨_,_,_⟩:=y
 simp [aL.mk.injEq,and_assoc]
theorem Nh (x y:aq):oh Tryz.prog 86 [.I x.Kind,.I x.Max,.I x.e9,.I x.cr,.I x.Options,.I x.Key] [.I y.Kind,.I y.Max,.I y.e9,.I y.cr,.I y.Options,.I y.Key] (decide (x=y)):=by
 refine Rg (by kernel_rfl) rfl rfl (show qK Tryz.prog (9999+1) 86 _ _ _ from (Rf (by kernel_rfl) (by kernel_rfl) (BV (v:=(.int .i64 x.Kind)) (u:=(.int .i64 y.Kind)) (by kernel_rfl) (fun w=>by kernel_rfl) (fun w=>by kernel_rfl) (BW (by kernel_rfl)) (BV (v:=(.int .i64 x.Max)) (u:=(.int .i64 y.Max)) (by kernel_rfl) (fun w=>by kernel_rfl) (fun w=>by kernel_rfl) (BW (by kernel_rfl)) (BV (v:=(.int .i64 x.e9)) (u:=(.int .i64 y.e9)) (by kernel_rfl) (fun w=>by kernel_rfl) (fun w=>by kernel_rfl) (BW (by kernel_rfl)) (BV (v:=(.int .i64 x.cr)) (u:=(.int .i64 y.cr)) (by kernel_rfl) (fun w=>by kernel_rfl) (fun w=>by kernel_rfl) (BW (by kernel_rfl)) (BV (v:=(.int .i64 x.Options)) (u:=(.int .i64 y.Options)) (by kernel_rfl) (fun w=>by kernel_rfl) (fun w=>by kernel_rfl) (BW (by kernel_rfl)) (BV (v:=(.int .i64 x.Key)) (u:=(.int .i64 y.Key)) (by kernel_rfl) (fun w=>by kernel_rfl) (fun w=>by kernel_rfl) (BW (by kernel_rfl)) Re)))))))) ?_
 rw [Bool.eq_iff_iff]
 obtain ⟨_,_,_,_,_,_⟩:=x; obtain ⟨_,_,_,_,_,_⟩:=y
 simp [aq.mk.injEq,and_assoc]
theorem RW (x y:ay):oh Tryz.prog 88 [.I x.Version,.I x.Form,.I x.Time] [.I y.Version,.I y.Form,.I y.Time] (decide (x=y)):=by
 refine Rg (by kernel_rfl) rfl rfl (show qK Tryz.prog (9999+1) 88 _ _ _ from (Rf (by kernel_rfl) (by kernel_rfl) (BV (v:=(.int .i64 x.Version)) (u:=(.int .i64 y.Version)) (by kernel_rfl) (fun w=>by kernel_rfl) (fun w=>by kernel_rfl) (BW (by kernel_rfl)) (BV (v:=(.int .i64 x.Form)) (u:=(.int .i64 y.Form)) (by kernel_rfl) (fun w=>by kernel_rfl) (fun w=>by kernel_rfl) (BW (by kernel_rfl)) (BV (v:=(.int .i64 x.Time)) (u:=(.int .i64 y.Time)) (by kernel_rfl) (fun w=>by kernel_rfl) (fun w=>by kernel_rfl) (BW (by kernel_rfl)) Re))))) ?_
 rw [Bool.eq_iff_iff]
 obtain ⟨_,_,_⟩:=x; obtain ⟨_,_,_⟩:=y
 simp [ay.mk.injEq,and_assoc]
theorem lN:zD Tryz.prog 76=some (3,78):=by kernel_rfl
theorem Ki:zD Tryz.prog 133=some (61,3):=by kernel_rfl
theorem lF:IZ Tryz.prog 3 (fun v=>∃ n,v=.int .i64 n):=TP (by kernel_rfl)
theorem u7:xv (LV.int .i64) (fun v=>∃ n,v=.int .i64 n):=WH
theorem JI:IZ Tryz.prog 61 (fun v=>∃ x:aL,v=(fun x:aL=>Value.agg #[.int .i64 x.Time,.int .i64 x.Source,.int .i64 x.Seq]) x):=TQ (enc:=(fun x:aL=>Value.agg #[.int .i64 x.Time,.int .i64 x.Source,.int .i64 x.Seq])) Tryz.underlying61 (fun _ _=>rfl) (fun w em x=>by kernel_rfl) (fun x y w=>R4 (EG x y) rfl rfl w) (fun x=>EI (by simp) 9999)
theorem PH:xv aL.lv (fun v=>∃ x:aL,v=(fun x:aL=>Value.agg #[.int .i64 x.Time,.int .i64 x.Source,.int .i64 x.Seq]) x):=⟨fun x=>⟨_,rfl,⟨x,rfl⟩,rfl⟩,fun x y h=>by obtain ⟨_,_,_⟩:=x; obtain ⟨_,_,_⟩:=y; simpa [aL.lv] using h⟩
end Go.Proofs.YtmollikhdbaikaaGreat
