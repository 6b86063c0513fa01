import Derived.Test.YtiinmaihgmfniaaGreatProg
import Derived.Test.YtiinmaihgmfniaaGreatZLb
namespace Go.Proofs.YtiinmaihgmfniaaGreat
open Go.L

theorem ts3:tsize Tryz.prog 3=1:=by kernel_rfl
theorem ta3:tagg Tryz.prog 3=false:=by kernel_rfl
theorem tk3:tok Tryz.prog 3=true:=by kernel_rfl
theorem ti3:tint Tryz.prog 3=some .i64:=by kernel_rfl
theorem tz3:tzero Tryz.prog 3=some (.int .i64 0):=by kernel_rfl
theorem tr3:trow Tryz.prog 3=true:=by kernel_rfl
theorem ts4:tsize Tryz.prog 4=1:=by kernel_rfl
theorem ta4:tagg Tryz.prog 4=false:=by kernel_rfl
theorem tk4:tok Tryz.prog 4=true:=by kernel_rfl
theorem tz4:tzero Tryz.prog 4=some (.bool false):=by kernel_rfl
theorem tr4:trow Tryz.prog 4=true:=by kernel_rfl
theorem ts22:tsize Tryz.prog 22=1:=by kernel_rfl
theorem ta22:tagg Tryz.prog 22=false:=by kernel_rfl
theorem tk22:tok Tryz.prog 22=true:=by kernel_rfl
theorem te22:telem Tryz.prog 22=some 3:=by kernel_rfl
theorem tz22:tzero Tryz.prog 22=some (.nil):=by kernel_rfl
theorem tr22:trow Tryz.prog 22=true:=by kernel_rfl
theorem ts26:tsize Tryz.prog 26=2:=by kernel_rfl
theorem ta26:tagg Tryz.prog 26=true:=by kernel_rfl
theorem tk26:tok Tryz.prog 26=true:=by kernel_rfl
theorem tz26:tzero Tryz.prog 26=some (.agg [.int .i64 0,.int .i64 0]):=by kernel_rfl
theorem tu26:tbuild Tryz.prog 26=true:=by kernel_rfl
theorem tf26_0:tfield Tryz.prog 26 0=some (0,3):=by kernel_rfl
theorem tf26_1:tfield Tryz.prog 26 1=some (1,3):=by kernel_rfl
theorem te28:telem Tryz.prog 28=some 44:=by kernel_rfl
theorem te30:telem Tryz.prog 30=some 134:=by kernel_rfl
theorem te32:telem Tryz.prog 32=some 46:=by kernel_rfl
theorem ta34:tagg Tryz.prog 34=false:=by kernel_rfl
theorem tk34:tok Tryz.prog 34=true:=by kernel_rfl
theorem te34:telem Tryz.prog 34=some 72:=by kernel_rfl
theorem ta37:tagg Tryz.prog 37=false:=by kernel_rfl
theorem tk37:tok Tryz.prog 37=true:=by kernel_rfl
theorem te37:telem Tryz.prog 37=some 60:=by kernel_rfl
theorem ts40:tsize Tryz.prog 40=3:=by kernel_rfl
theorem ta40:tagg Tryz.prog 40=true:=by kernel_rfl
theorem tk40:tok Tryz.prog 40=true:=by kernel_rfl
theorem tz40:tzero Tryz.prog 40=some (.agg [.int .i64 0,.int .i64 0,.int .i64 0]):=by kernel_rfl
theorem tr40:trow Tryz.prog 40=true:=by kernel_rfl
theorem tu40:tbuild Tryz.prog 40=true:=by kernel_rfl
theorem tf40_0:tfield Tryz.prog 40 0=some (0,3):=by kernel_rfl
theorem tf40_1:tfield Tryz.prog 40 1=some (1,3):=by kernel_rfl
theorem tf40_2:tfield Tryz.prog 40 2=some (2,3):=by kernel_rfl
theorem ts42:tsize Tryz.prog 42=3:=by kernel_rfl
theorem ta42:tagg Tryz.prog 42=true:=by kernel_rfl
theorem tk42:tok Tryz.prog 42=true:=by kernel_rfl
theorem tz42:tzero Tryz.prog 42=some (.agg [.int .i64 0,.int .i64 0,.int .i64 0]):=by kernel_rfl
theorem tu42:tbuild Tryz.prog 42=true:=by kernel_rfl
theorem tf42_0:tfield Tryz.prog 42 0=some (0,3):=by kernel_rfl
theorem tf42_1:tfield Tryz.prog 42 1=some (1,3):=by kernel_rfl
theorem tf42_2:tfield Tryz.prog 42 2=some (2,3):=by kernel_rfl
theorem ts44:tsize Tryz.prog 44=8:=by kernel_rfl
theorem ta44:tagg Tryz.prog 44=true:=by kernel_rfl
theorem tk44:tok Tryz.prog 44=true:=by kernel_rfl
theorem tz44:tzero Tryz.prog 44=some (.agg [.int .i64 0,.int .i64 0,.int .i64 0,.int .i64 0,.int .i64 0,.int .i64 0,.int .i64 0,.int .i64 0]):=by kernel_rfl
theorem tr44:trow Tryz.prog 44=true:=by kernel_rfl
theorem tu44:tbuild Tryz.prog 44=true:=by kernel_rfl
theorem tf44_0:tfield Tryz.prog 44 0=some (0,40):=by kernel_rfl
theorem tf44_1:tfield Tryz.prog 44 1=some (3,3):=by kernel_rfl
theorem tf44_2:tfield Tryz.prog 44 2=some (4,42):=by kernel_rfl
theorem tf44_3:tfield Tryz.prog 44 3=some (7,3):=by kernel_rfl
theorem ts46:tsize Tryz.prog 46=5:=by kernel_rfl
theorem ta46:tagg Tryz.prog 46=true:=by kernel_rfl
theorem tk46:tok Tryz.prog 46=true:=by kernel_rfl
theorem tz46:tzero Tryz.prog 46=some (.agg [.int .i64 0,.int .i64 0,.int .i64 0,.int .i64 0,.int .i64 0]):=by kernel_rfl
theorem tr46:trow Tryz.prog 46=true:=by kernel_rfl
theorem tu46:tbuild Tryz.prog 46=true:=by kernel_rfl
theorem tf46_0:tfield Tryz.prog 46 0=some (0,3):=by kernel_rfl
theorem tf46_1:tfield Tryz.prog 46 1=some (1,3):=by kernel_rfl
theorem tf46_2:tfield Tryz.prog 46 2=some (2,3):=by kernel_rfl
theorem tf46_3:tfield Tryz.prog 46 3=some (3,3):=by kernel_rfl
theorem tf46_4:tfield Tryz.prog 46 4=some (4,3):=by kernel_rfl
theorem te47:telem Tryz.prog 47=some 58:=by kernel_rfl
theorem te48:telem Tryz.prog 48=some 143:=by kernel_rfl
theorem ts49:tsize Tryz.prog 49=1:=by kernel_rfl
theorem tk49:tok Tryz.prog 49=true:=by kernel_rfl
theorem ts54:tsize Tryz.prog 54=2:=by kernel_rfl
theorem ta54:tagg Tryz.prog 54=true:=by kernel_rfl
theorem tk54:tok Tryz.prog 54=true:=by kernel_rfl
theorem tz54:tzero Tryz.prog 54=some (.agg [.int .i64 0,.int .i64 0]):=by kernel_rfl
theorem tr54:trow Tryz.prog 54=true:=by kernel_rfl
theorem tu54:tbuild Tryz.prog 54=true:=by kernel_rfl
theorem tf54_0:tfield Tryz.prog 54 0=some (0,3):=by kernel_rfl
theorem tf54_1:tfield Tryz.prog 54 1=some (1,3):=by kernel_rfl
theorem ts58:tsize Tryz.prog 58=4:=by kernel_rfl
theorem ta58:tagg Tryz.prog 58=true:=by kernel_rfl
theorem tk58:tok Tryz.prog 58=true:=by kernel_rfl
theorem tz58:tzero Tryz.prog 58=some (.agg [.int .i64 0,.int .i64 0,.int .i64 0,.bool false]):=by kernel_rfl
theorem tr58:trow Tryz.prog 58=true:=by kernel_rfl
theorem tu58:tbuild Tryz.prog 58=true:=by kernel_rfl
theorem tf58_0:tfield Tryz.prog 58 0=some (0,42):=by kernel_rfl
theorem tf58_1:tfield Tryz.prog 58 1=some (3,4):=by kernel_rfl
theorem ts60:tsize Tryz.prog 60=2:=by kernel_rfl
theorem ta60:tagg Tryz.prog 60=true:=by kernel_rfl
theorem tk60:tok Tryz.prog 60=true:=by kernel_rfl
theorem tz60:tzero Tryz.prog 60=some (.agg [.int .i64 0,.int .i64 0]):=by kernel_rfl
theorem tr60:trow Tryz.prog 60=true:=by kernel_rfl
theorem tu60:tbuild Tryz.prog 60=true:=by kernel_rfl
theorem tf60_0:tfield Tryz.prog 60 0=some (0,3):=by kernel_rfl
theorem tf60_1:tfield Tryz.prog 60 1=some (1,3):=by kernel_rfl
theorem te61:telem Tryz.prog 61=some 69:=by kernel_rfl
theorem ts67:tsize Tryz.prog 67=3:=by kernel_rfl
theorem ta67:tagg Tryz.prog 67=true:=by kernel_rfl
theorem tk67:tok Tryz.prog 67=true:=by kernel_rfl
theorem tz67:tzero Tryz.prog 67=some (.agg [.int .i64 0,.int .i64 0,.int .i64 0]):=by kernel_rfl
theorem tu67:tbuild Tryz.prog 67=true:=by kernel_rfl
theorem tf67_0:tfield Tryz.prog 67 0=some (0,3):=by kernel_rfl
theorem tf67_1:tfield Tryz.prog 67 1=some (1,3):=by kernel_rfl
theorem tf67_2:tfield Tryz.prog 67 2=some (2,3):=by kernel_rfl
theorem ts69:tsize Tryz.prog 69=5:=by kernel_rfl
theorem ta69:tagg Tryz.prog 69=true:=by kernel_rfl
theorem tk69:tok Tryz.prog 69=true:=by kernel_rfl
theorem tz69:tzero Tryz.prog 69=some (.agg [.int .i64 0,.int .i64 0,.int .i64 0,.int .i64 0,.int .i64 0]):=by kernel_rfl
theorem tr69:trow Tryz.prog 69=true:=by kernel_rfl
theorem tu69:tbuild Tryz.prog 69=true:=by kernel_rfl
theorem tf69_0:tfield Tryz.prog 69 0=some (0,3):=by kernel_rfl
theorem tf69_1:tfield Tryz.prog 69 1=some (1,67):=by kernel_rfl
theorem tf69_2:tfield Tryz.prog 69 2=some (4,3):=by kernel_rfl
theorem ts72:tsize Tryz.prog 72=3:=by kernel_rfl
theorem ta72:tagg Tryz.prog 72=true:=by kernel_rfl
theorem tk72:tok Tryz.prog 72=true:=by kernel_rfl
theorem tz72:tzero Tryz.prog 72=some (.agg [.int .i64 0,.int .i64 0,.int .i64 0]):=by kernel_rfl
theorem tr72:trow Tryz.prog 72=true:=by kernel_rfl
theorem tu72:tbuild Tryz.prog 72=true:=by kernel_rfl
theorem tf72_0:tfield Tryz.prog 72 0=some (0,3):=by kernel_rfl
theorem tf72_1:tfield Tryz.prog 72 1=some (1,3):=by kernel_rfl
theorem tf72_2:tfield Tryz.prog 72 2=some (2,3):=by kernel_rfl
theorem ts113:tsize Tryz.prog 113=1:=by kernel_rfl
theorem ta113:tagg Tryz.prog 113=false:=by kernel_rfl
theorem tk113:tok Tryz.prog 113=true:=by kernel_rfl
theorem tz113:tzero Tryz.prog 113=some (.nilf):=by kernel_rfl
theorem ts117:tsize Tryz.prog 117=1:=by kernel_rfl
theorem ta117:tagg Tryz.prog 117=false:=by kernel_rfl
theorem tk117:tok Tryz.prog 117=true:=by kernel_rfl
theorem te117:telem Tryz.prog 117=some 22:=by kernel_rfl
theorem tz117:tzero Tryz.prog 117=some (.nil):=by kernel_rfl
theorem tz129:tzero Tryz.prog 129=some (.agg [.nil,.int .i64 0]):=by kernel_rfl
theorem tu129:tbuild Tryz.prog 129=true:=by kernel_rfl
theorem tf129_0:tfield Tryz.prog 129 0=some (0,22):=by kernel_rfl
theorem tf129_1:tfield Tryz.prog 129 1=some (1,3):=by kernel_rfl
theorem ts134:tsize Tryz.prog 134=4:=by kernel_rfl
theorem ta134:tagg Tryz.prog 134=true:=by kernel_rfl
theorem tk134:tok Tryz.prog 134=true:=by kernel_rfl
theorem tz134:tzero Tryz.prog 134=some (.agg [.int .i64 0,.int .i64 0,.int .i64 0,.int .i64 0]):=by kernel_rfl
theorem tr134:trow Tryz.prog 134=true:=by kernel_rfl
theorem tu134:tbuild Tryz.prog 134=true:=by kernel_rfl
theorem tf134_0:tfield Tryz.prog 134 0=some (0,3):=by kernel_rfl
theorem tf134_1:tfield Tryz.prog 134 1=some (1,3):=by kernel_rfl
theorem tf134_2:tfield Tryz.prog 134 2=some (2,3):=by kernel_rfl
theorem tf134_3:tfield Tryz.prog 134 3=some (3,3):=by kernel_rfl
theorem ts141:tsize Tryz.prog 141=2:=by kernel_rfl
theorem tk141:tok Tryz.prog 141=true:=by kernel_rfl
theorem tz141:tzero Tryz.prog 141=some (.agg [.int .i64 0,.int .i64 0]):=by kernel_rfl
theorem tu141:tbuild Tryz.prog 141=true:=by kernel_rfl
theorem tf141_0:tfield Tryz.prog 141 0=some (0,3):=by kernel_rfl
theorem tf141_1:tfield Tryz.prog 141 1=some (1,3):=by kernel_rfl
theorem ts143:tsize Tryz.prog 143=3:=by kernel_rfl
theorem tz143:tzero Tryz.prog 143=some (.agg [.int .i64 0,.int .i64 0,.int .i64 0]):=by kernel_rfl
theorem tr143:trow Tryz.prog 143=true:=by kernel_rfl
theorem tu143:tbuild Tryz.prog 143=true:=by kernel_rfl
theorem tf143_0:tfield Tryz.prog 143 0=some (0,141):=by kernel_rfl
theorem tf143_1:tfield Tryz.prog 143 1=some (2,49):=by kernel_rfl
theorem te145:telem Tryz.prog 145=some 54:=by kernel_rfl
theorem ts151:tsize Tryz.prog 151=1:=by kernel_rfl
theorem ta151:tagg Tryz.prog 151=false:=by kernel_rfl
theorem tk151:tok Tryz.prog 151=true:=by kernel_rfl
theorem te151:telem Tryz.prog 151=some 4:=by kernel_rfl
theorem tz151:tzero Tryz.prog 151=some (.nil):=by kernel_rfl
theorem tk213:tok Tryz.prog 213=true:=by kernel_rfl
theorem ti213:tint Tryz.prog 213=some .u64:=by kernel_rfl
theorem ta254:tagg Tryz.prog 254=false:=by kernel_rfl
theorem tk254:tok Tryz.prog 254=true:=by kernel_rfl
theorem te254:telem Tryz.prog 254=some 40:=by kernel_rfl
theorem te296:telem Tryz.prog 296=some 299:=by kernel_rfl
theorem ts299:tsize Tryz.prog 299=2:=by kernel_rfl
theorem ta299:tagg Tryz.prog 299=true:=by kernel_rfl
theorem tk299:tok Tryz.prog 299=true:=by kernel_rfl
theorem tz299:tzero Tryz.prog 299=some (.agg [.int .i64 0,.bool false]):=by kernel_rfl
theorem tr299:trow Tryz.prog 299=true:=by kernel_rfl
theorem tu299:tbuild Tryz.prog 299=true:=by kernel_rfl
theorem tf299_0:tfield Tryz.prog 299 0=some (0,3):=by kernel_rfl
theorem tf299_1:tfield Tryz.prog 299 1=some (1,4):=by kernel_rfl
theorem mixed:Tryz.prog.follows .mixedOrders=true:=by kernel_rfl
theorem isF6:IsF Tryz.prog 6:=⟨_,Tryz.func6,by kernel_rfl,rfl⟩
theorem isF7:IsF Tryz.prog 7:=⟨_,Tryz.func7,by kernel_rfl,rfl⟩
theorem isF8:IsF Tryz.prog 8:=⟨_,Tryz.func8,by kernel_rfl,rfl⟩
theorem isF9:IsF Tryz.prog 9:=⟨_,Tryz.func9,by kernel_rfl,rfl⟩
theorem isF10:IsF Tryz.prog 10:=⟨_,Tryz.func10,by kernel_rfl,rfl⟩
theorem isF11:IsF Tryz.prog 11:=⟨_,Tryz.func11,by kernel_rfl,rfl⟩
theorem isF12:IsF Tryz.prog 12:=⟨_,Tryz.func12,by kernel_rfl,rfl⟩
theorem isF13:IsF Tryz.prog 13:=⟨_,Tryz.func13,by kernel_rfl,rfl⟩
theorem isF14:IsF Tryz.prog 14:=⟨_,Tryz.func14,by kernel_rfl,rfl⟩
theorem isF15:IsF Tryz.prog 15:=⟨_,Tryz.func15,by kernel_rfl,rfl⟩
theorem isF16:IsF Tryz.prog 16:=⟨_,Tryz.func16,by kernel_rfl,rfl⟩
theorem isF17:IsF Tryz.prog 17:=⟨_,Tryz.func17,by kernel_rfl,rfl⟩
theorem isF18:IsF Tryz.prog 18:=⟨_,Tryz.func18,by kernel_rfl,rfl⟩
theorem isF19:IsF Tryz.prog 19:=⟨_,Tryz.func19,by kernel_rfl,rfl⟩
theorem isF20:IsF Tryz.prog 20:=⟨_,Tryz.func20,by kernel_rfl,rfl⟩
theorem isF23:IsF Tryz.prog 23:=⟨_,Tryz.func23,by kernel_rfl,rfl⟩
theorem isF32:IsF Tryz.prog 32:=⟨_,Tryz.func32,by kernel_rfl,rfl⟩
theorem isF34:IsF Tryz.prog 34:=⟨_,Tryz.func34,by kernel_rfl,rfl⟩
theorem isF41:IsF Tryz.prog 41:=⟨_,Tryz.func41,by kernel_rfl,rfl⟩
theorem isF42:IsF Tryz.prog 42:=⟨_,Tryz.func42,by kernel_rfl,rfl⟩
theorem isF43:IsF Tryz.prog 43:=⟨_,Tryz.func43,by kernel_rfl,rfl⟩
theorem isF44:IsF Tryz.prog 44:=⟨_,Tryz.func44,by kernel_rfl,rfl⟩
theorem isF45:IsF Tryz.prog 45:=⟨_,Tryz.func45,by kernel_rfl,rfl⟩
theorem isF46:IsF Tryz.prog 46:=⟨_,Tryz.func46,by kernel_rfl,rfl⟩
theorem isF47:IsF Tryz.prog 47:=⟨_,Tryz.func47,by kernel_rfl,rfl⟩
theorem isF48:IsF Tryz.prog 48:=⟨_,Tryz.func48,by kernel_rfl,rfl⟩
theorem isF49:IsF Tryz.prog 49:=⟨_,Tryz.func49,by kernel_rfl,rfl⟩
theorem isF50:IsF Tryz.prog 50:=⟨_,Tryz.func50,by kernel_rfl,rfl⟩
theorem isF51:IsF Tryz.prog 51:=⟨_,Tryz.func51,by kernel_rfl,rfl⟩
theorem isF52:IsF Tryz.prog 52:=⟨_,Tryz.func52,by kernel_rfl,rfl⟩
theorem isF53:IsF Tryz.prog 53:=⟨_,Tryz.func53,by kernel_rfl,rfl⟩
theorem isF54:IsF Tryz.prog 54:=⟨_,Tryz.func54,by kernel_rfl,rfl⟩
theorem isF55:IsF Tryz.prog 55:=⟨_,Tryz.func55,by kernel_rfl,rfl⟩
theorem isF56:IsF Tryz.prog 56:=⟨_,Tryz.func56,by kernel_rfl,rfl⟩
theorem isF57:IsF Tryz.prog 57:=⟨_,Tryz.func57,by kernel_rfl,rfl⟩
theorem isF58:IsF Tryz.prog 58:=⟨_,Tryz.func58,by kernel_rfl,rfl⟩
theorem isF59:IsF Tryz.prog 59:=⟨_,Tryz.func59,by kernel_rfl,rfl⟩
theorem isF60:IsF Tryz.prog 60:=⟨_,Tryz.func60,by kernel_rfl,rfl⟩
theorem isF61:IsF Tryz.prog 61:=⟨_,Tryz.func61,by kernel_rfl,rfl⟩
theorem isF65:IsF Tryz.prog 65:=⟨_,Tryz.func65,by kernel_rfl,rfl⟩
theorem isF90:IsF Tryz.prog 90:=⟨_,Tryz.func90,by kernel_rfl,rfl⟩
theorem isF91:IsF Tryz.prog 91:=⟨_,Tryz.func91,by kernel_rfl,rfl⟩
theorem isF92:IsF Tryz.prog 92:=⟨_,Tryz.func92,by kernel_rfl,rfl⟩
theorem isF93:IsF Tryz.prog 93:=⟨_,Tryz.func93,by kernel_rfl,rfl⟩
theorem isF94:IsF Tryz.prog 94:=⟨_,Tryz.func94,by kernel_rfl,rfl⟩
theorem isF95:IsF Tryz.prog 95:=⟨_,Tryz.func95,by kernel_rfl,rfl⟩
theorem isF96:IsF Tryz.prog 96:=⟨_,Tryz.func96,by kernel_rfl,rfl⟩
theorem isF97:IsF Tryz.prog 97:=⟨_,Tryz.func97,by kernel_rfl,rfl⟩
theorem isF98:IsF Tryz.prog 98:=⟨_,Tryz.func98,by kernel_rfl,rfl⟩
theorem isF99:IsF Tryz.prog 99:=⟨_,Tryz.func99,by kernel_rfl,rfl⟩
theorem isF100:IsF Tryz.prog 100:=⟨_,Tryz.func100,by kernel_rfl,rfl⟩
theorem isF101:IsF Tryz.prog 101:=⟨_,Tryz.func101,by kernel_rfl,rfl⟩
theorem isF102:IsF Tryz.prog 102:=⟨_,Tryz.func102,by kernel_rfl,rfl⟩
theorem isF103:IsF Tryz.prog 103:=⟨_,Tryz.func103,by kernel_rfl,rfl⟩
theorem isF104:IsF Tryz.prog 104:=⟨_,Tryz.func104,by kernel_rfl,rfl⟩
theorem isF108:IsF Tryz.prog 108:=⟨_,Tryz.func108,by kernel_rfl,rfl⟩
theorem isF109:IsF Tryz.prog 109:=⟨_,Tryz.func109,by kernel_rfl,rfl⟩
theorem isF155:IsF Tryz.prog 155:=⟨_,Tryz.func155,by kernel_rfl,rfl⟩
theorem isF156:IsF Tryz.prog 156:=⟨_,Tryz.func156,by kernel_rfl,rfl⟩
theorem isF157:IsF Tryz.prog 157:=⟨_,Tryz.func157,by kernel_rfl,rfl⟩
theorem isF158:IsF Tryz.prog 158:=⟨_,Tryz.func158,by kernel_rfl,rfl⟩
theorem isF159:IsF Tryz.prog 159:=⟨_,Tryz.func159,by kernel_rfl,rfl⟩
theorem isF160:IsF Tryz.prog 160:=⟨_,Tryz.func160,by kernel_rfl,rfl⟩
theorem isF199:IsF Tryz.prog 199:=⟨_,Tryz.func199,by kernel_rfl,rfl⟩
theorem isF200:IsF Tryz.prog 200:=⟨_,Tryz.func200,by kernel_rfl,rfl⟩
theorem isF201:IsF Tryz.prog 201:=⟨_,Tryz.func201,by kernel_rfl,rfl⟩
theorem isF202:IsF Tryz.prog 202:=⟨_,Tryz.func202,by kernel_rfl,rfl⟩
theorem isF203:IsF Tryz.prog 203:=⟨_,Tryz.func203,by kernel_rfl,rfl⟩
theorem isF218:IsF Tryz.prog 218:=⟨_,Tryz.func218,by kernel_rfl,rfl⟩
theorem isF219:IsF Tryz.prog 219:=⟨_,Tryz.func219,by kernel_rfl,rfl⟩
theorem isF220:IsF Tryz.prog 220:=⟨_,Tryz.func220,by kernel_rfl,rfl⟩
end Go.Proofs.YtiinmaihgmfniaaGreat
