import Derived.Test.YtmollikhdbaikaaGreatProg
import Derived.Test.YtmollikhdbaikaaGreatZLb
import Derived.Test.YtmollikhdbaikaaGreatZLc
namespace Go.Proofs.YtmollikhdbaikaaGreat
open Go.L

theorem ts3:tsize Tryz.prog 3=1:=by kernel_rfl
theorem ta3:tagg Tryz.prog 3=false:=by kernel_rfl
theorem tk3:tok Tryz.prog 3=true:=by kernel_rfl
theorem ti3:tint Tryz.prog 3=some .i64:=by kernel_rfl
theorem tz3:tzero Tryz.prog 3=some (.int .i64 0):=by kernel_rfl
theorem tr3:trow Tryz.prog 3=true:=by kernel_rfl
theorem ts4:tsize Tryz.prog 4=1:=by kernel_rfl
theorem ta4:tagg Tryz.prog 4=false:=by kernel_rfl
theorem tk4:tok Tryz.prog 4=true:=by kernel_rfl
theorem tb4:tbool Tryz.prog 4=true:=by kernel_rfl
theorem tr4:trow Tryz.prog 4=true:=by kernel_rfl
theorem ts5:tsize Tryz.prog 5=1:=by kernel_rfl
theorem ti5:tint Tryz.prog 5=some .u8:=by kernel_rfl
theorem tr5:trow Tryz.prog 5=true:=by kernel_rfl
theorem ts9:tsize Tryz.prog 9=1:=by kernel_rfl
theorem ta9:tagg Tryz.prog 9=false:=by kernel_rfl
theorem tk9:tok Tryz.prog 9=true:=by kernel_rfl
theorem tS9:tstr Tryz.prog 9=true:=by kernel_rfl
theorem tr9:trow Tryz.prog 9=true:=by kernel_rfl
theorem ts22:tsize Tryz.prog 22=1:=by kernel_rfl
theorem ta22:tagg Tryz.prog 22=false:=by kernel_rfl
theorem tk22:tok Tryz.prog 22=true:=by kernel_rfl
theorem te22:telem Tryz.prog 22=some 3:=by kernel_rfl
theorem te25:telem Tryz.prog 25=some 63:=by kernel_rfl
theorem ts28:tsize Tryz.prog 28=1:=by kernel_rfl
theorem ta28:tagg Tryz.prog 28=false:=by kernel_rfl
theorem tk28:tok Tryz.prog 28=true:=by kernel_rfl
theorem te28:telem Tryz.prog 28=some 49:=by kernel_rfl
theorem ts30:tsize Tryz.prog 30=1:=by kernel_rfl
theorem ta30:tagg Tryz.prog 30=true:=by kernel_rfl
theorem tk30:tok Tryz.prog 30=true:=by kernel_rfl
theorem tz30:tzero Tryz.prog 30=some (.agg [.nil]):=by kernel_rfl
theorem tu30:tbuild Tryz.prog 30=true:=by kernel_rfl
theorem tf30_0:tfield Tryz.prog 30 0=some (0,28):=by kernel_rfl
theorem te31:telem Tryz.prog 31=some 84:=by kernel_rfl
theorem ts32:tsize Tryz.prog 32=1:=by kernel_rfl
theorem tk32:tok Tryz.prog 32=true:=by kernel_rfl
theorem te40:telem Tryz.prog 40=some 43:=by kernel_rfl
theorem ts43:tsize Tryz.prog 43=2:=by kernel_rfl
theorem ta43:tagg Tryz.prog 43=true:=by kernel_rfl
theorem tk43:tok Tryz.prog 43=true:=by kernel_rfl
theorem tz43:tzero Tryz.prog 43=some (.agg [.int .i64 0,.int .i64 0]):=by kernel_rfl
theorem tr43:trow Tryz.prog 43=true:=by kernel_rfl
theorem tu43:tbuild Tryz.prog 43=true:=by kernel_rfl
theorem tf43_0:tfield Tryz.prog 43 0=some (0,3):=by kernel_rfl
theorem tf43_1:tfield Tryz.prog 43 1=some (1,3):=by kernel_rfl
theorem ts45:tsize Tryz.prog 45=1:=by kernel_rfl
theorem ta45:tagg Tryz.prog 45=false:=by kernel_rfl
theorem tk45:tok Tryz.prog 45=true:=by kernel_rfl
theorem te45:telem Tryz.prog 45=some 54:=by kernel_rfl
theorem ts46:tsize Tryz.prog 46=1:=by kernel_rfl
theorem ta46:tagg Tryz.prog 46=false:=by kernel_rfl
theorem tk46:tok Tryz.prog 46=true:=by kernel_rfl
theorem te46:telem Tryz.prog 46=some 4:=by kernel_rfl
theorem ts47:tsize Tryz.prog 47=1:=by kernel_rfl
theorem ta47:tagg Tryz.prog 47=false:=by kernel_rfl
theorem tk47:tok Tryz.prog 47=true:=by kernel_rfl
theorem te47:telem Tryz.prog 47=some 88:=by kernel_rfl
theorem ts49:tsize Tryz.prog 49=5:=by kernel_rfl
theorem ta49:tagg Tryz.prog 49=true:=by kernel_rfl
theorem tk49:tok Tryz.prog 49=true:=by kernel_rfl
theorem tz49:tzero Tryz.prog 49=some (.agg [.int .i64 0,.nil,.nil,.nil,.bool false]):=by kernel_rfl
theorem tr49:trow Tryz.prog 49=true:=by kernel_rfl
theorem tu49:tbuild Tryz.prog 49=true:=by kernel_rfl
theorem tf49_0:tfield Tryz.prog 49 0=some (0,3):=by kernel_rfl
theorem tf49_1:tfield Tryz.prog 49 1=some (1,45):=by kernel_rfl
theorem tf49_2:tfield Tryz.prog 49 2=some (2,46):=by kernel_rfl
theorem tf49_3:tfield Tryz.prog 49 3=some (3,47):=by kernel_rfl
theorem tf49_4:tfield Tryz.prog 49 4=some (4,4):=by kernel_rfl
theorem ts52:tsize Tryz.prog 52=1:=by kernel_rfl
theorem ta52:tagg Tryz.prog 52=false:=by kernel_rfl
theorem tk52:tok Tryz.prog 52=true:=by kernel_rfl
theorem te52:telem Tryz.prog 52=some 86:=by kernel_rfl
theorem ts54:tsize Tryz.prog 54=5:=by kernel_rfl
theorem ta54:tagg Tryz.prog 54=true:=by kernel_rfl
theorem tk54:tok Tryz.prog 54=true:=by kernel_rfl
theorem tz54:tzero Tryz.prog 54=some (.agg [.int .i64 0,.int .i64 0,.str (ByteArray.mk #[]),.nil,.nil]):=by kernel_rfl
theorem tr54:trow Tryz.prog 54=true:=by kernel_rfl
theorem tu54:tbuild Tryz.prog 54=true:=by kernel_rfl
theorem tf54_0:tfield Tryz.prog 54 0=some (0,3):=by kernel_rfl
theorem tf54_1:tfield Tryz.prog 54 1=some (1,3):=by kernel_rfl
theorem tf54_2:tfield Tryz.prog 54 2=some (2,9):=by kernel_rfl
theorem tf54_3:tfield Tryz.prog 54 3=some (3,52):=by kernel_rfl
theorem tf54_4:tfield Tryz.prog 54 4=some (4,22):=by kernel_rfl
theorem ts61:tsize Tryz.prog 61=3:=by kernel_rfl
theorem ta61:tagg Tryz.prog 61=true:=by kernel_rfl
theorem tk61:tok Tryz.prog 61=true:=by kernel_rfl
theorem tz61:tzero Tryz.prog 61=some (.agg [.int .i64 0,.int .i64 0,.int .i64 0]):=by kernel_rfl
theorem tr61:trow Tryz.prog 61=true:=by kernel_rfl
theorem tu61:tbuild Tryz.prog 61=true:=by kernel_rfl
theorem tf61_0:tfield Tryz.prog 61 0=some (0,3):=by kernel_rfl
theorem tf61_1:tfield Tryz.prog 61 1=some (1,3):=by kernel_rfl
theorem tf61_2:tfield Tryz.prog 61 2=some (2,3):=by kernel_rfl
theorem ts63:tsize Tryz.prog 63=12:=by kernel_rfl
theorem ta63:tagg Tryz.prog 63=true:=by kernel_rfl
theorem tk63:tok Tryz.prog 63=true:=by kernel_rfl
theorem tz63:tzero Tryz.prog 63=some (.agg [.int .i64 0,.int .i64 0,.int .i64 0,.int .i64 0,.int .i64 0,.int .i64 0,.str (ByteArray.mk #[]),.nil,.nil,.int .i64 0,.int .i64 0,.int .i64 0]):=by kernel_rfl
theorem tr63:trow Tryz.prog 63=true:=by kernel_rfl
theorem tu63:tbuild Tryz.prog 63=true:=by kernel_rfl
theorem tf63_0:tfield Tryz.prog 63 0=some (0,61):=by kernel_rfl
theorem tf63_1:tfield Tryz.prog 63 1=some (3,3):=by kernel_rfl
theorem tf63_2:tfield Tryz.prog 63 2=some (4,54):=by kernel_rfl
theorem tf63_3:tfield Tryz.prog 63 3=some (9,43):=by kernel_rfl
theorem tf63_4:tfield Tryz.prog 63 4=some (11,3):=by kernel_rfl
theorem tz68:tzero Tryz.prog 68=some (.agg [.nil,.int .i64 0]):=by kernel_rfl
theorem tu68:tbuild Tryz.prog 68=true:=by kernel_rfl
theorem tf68_0:tfield Tryz.prog 68 0=some (0,22):=by kernel_rfl
theorem tf68_1:tfield Tryz.prog 68 1=some (1,3):=by kernel_rfl
theorem tz78:tzero Tryz.prog 78=some (.nilf):=by kernel_rfl
theorem ts82:tsize Tryz.prog 82=2:=by kernel_rfl
theorem tk82:tok Tryz.prog 82=true:=by kernel_rfl
theorem tz82:tzero Tryz.prog 82=some (.agg [.int .i64 0,.int .i64 0]):=by kernel_rfl
theorem tu82:tbuild Tryz.prog 82=true:=by kernel_rfl
theorem tf82_0:tfield Tryz.prog 82 0=some (0,3):=by kernel_rfl
theorem tf82_1:tfield Tryz.prog 82 1=some (1,3):=by kernel_rfl
theorem ts84:tsize Tryz.prog 84=3:=by kernel_rfl
theorem ta84:tagg Tryz.prog 84=true:=by kernel_rfl
theorem tk84:tok Tryz.prog 84=true:=by kernel_rfl
theorem tz84:tzero Tryz.prog 84=some (.agg [.int .i64 0,.int .i64 0,.int .i64 0]):=by kernel_rfl
theorem tr84:trow Tryz.prog 84=true:=by kernel_rfl
theorem tu84:tbuild Tryz.prog 84=true:=by kernel_rfl
theorem tf84_0:tfield Tryz.prog 84 0=some (0,82):=by kernel_rfl
theorem tf84_1:tfield Tryz.prog 84 1=some (2,32):=by kernel_rfl
theorem ts86:tsize Tryz.prog 86=6:=by kernel_rfl
theorem ta86:tagg Tryz.prog 86=true:=by kernel_rfl
theorem tk86:tok Tryz.prog 86=true:=by kernel_rfl
theorem tz86:tzero Tryz.prog 86=some (.agg [.int .i64 0,.int .i64 0,.int .i64 0,.int .i64 0,.int .i64 0,.int .i64 0]):=by kernel_rfl
theorem tr86:trow Tryz.prog 86=true:=by kernel_rfl
theorem tu86:tbuild Tryz.prog 86=true:=by kernel_rfl
theorem tf86_0:tfield Tryz.prog 86 0=some (0,3):=by kernel_rfl
theorem tf86_1:tfield Tryz.prog 86 1=some (1,3):=by kernel_rfl
theorem tf86_2:tfield Tryz.prog 86 2=some (2,3):=by kernel_rfl
theorem tf86_3:tfield Tryz.prog 86 3=some (3,3):=by kernel_rfl
theorem tf86_4:tfield Tryz.prog 86 4=some (4,3):=by kernel_rfl
theorem tf86_5:tfield Tryz.prog 86 5=some (5,3):=by kernel_rfl
theorem ts88:tsize Tryz.prog 88=3:=by kernel_rfl
theorem ta88:tagg Tryz.prog 88=true:=by kernel_rfl
theorem tk88:tok Tryz.prog 88=true:=by kernel_rfl
theorem tz88:tzero Tryz.prog 88=some (.agg [.int .i64 0,.int .i64 0,.int .i64 0]):=by kernel_rfl
theorem tr88:trow Tryz.prog 88=true:=by kernel_rfl
theorem tu88:tbuild Tryz.prog 88=true:=by kernel_rfl
theorem tf88_0:tfield Tryz.prog 88 0=some (0,3):=by kernel_rfl
theorem tf88_1:tfield Tryz.prog 88 1=some (1,3):=by kernel_rfl
theorem tf88_2:tfield Tryz.prog 88 2=some (2,3):=by kernel_rfl
theorem te105:telem Tryz.prog 105=some 9:=by kernel_rfl
theorem ta111:tagg Tryz.prog 111=false:=by kernel_rfl
theorem tk111:tok Tryz.prog 111=true:=by kernel_rfl
theorem te111:telem Tryz.prog 111=some 61:=by kernel_rfl
theorem te121:telem Tryz.prog 121=some 5:=by kernel_rfl
theorem tq127:tptr Tryz.prog 127=true:=by kernel_rfl
theorem te134:telem Tryz.prog 134=some 137:=by kernel_rfl
theorem ts137:tsize Tryz.prog 137=2:=by kernel_rfl
theorem ta137:tagg Tryz.prog 137=true:=by kernel_rfl
theorem tk137:tok Tryz.prog 137=true:=by kernel_rfl
theorem tz137:tzero Tryz.prog 137=some (.agg [.int .i64 0,.bool false]):=by kernel_rfl
theorem tr137:trow Tryz.prog 137=true:=by kernel_rfl
theorem tu137:tbuild Tryz.prog 137=true:=by kernel_rfl
theorem tf137_0:tfield Tryz.prog 137 0=some (0,3):=by kernel_rfl
theorem tf137_1:tfield Tryz.prog 137 1=some (1,4):=by kernel_rfl
theorem tk151:tok Tryz.prog 151=true:=by kernel_rfl
theorem ti151:tint Tryz.prog 151=some .u64:=by kernel_rfl
theorem mixed:Tryz.prog.follows .mixedOrders=true:=by kernel_rfl
theorem isF7:IsF Tryz.prog 7:=⟨_,Tryz.func7,by kernel_rfl,rfl⟩
theorem isF8:IsF Tryz.prog 8:=⟨_,Tryz.func8,by kernel_rfl,rfl⟩
theorem isF9:IsF Tryz.prog 9:=⟨_,Tryz.func9,by kernel_rfl,rfl⟩
theorem isF10:IsF Tryz.prog 10:=⟨_,Tryz.func10,by kernel_rfl,rfl⟩
theorem isF11:IsF Tryz.prog 11:=⟨_,Tryz.func11,by kernel_rfl,rfl⟩
theorem isF12:IsF Tryz.prog 12:=⟨_,Tryz.func12,by kernel_rfl,rfl⟩
theorem isF13:IsF Tryz.prog 13:=⟨_,Tryz.func13,by kernel_rfl,rfl⟩
theorem isF14:IsF Tryz.prog 14:=⟨_,Tryz.func14,by kernel_rfl,rfl⟩
theorem isF16:IsF Tryz.prog 16:=⟨_,Tryz.func16,by kernel_rfl,rfl⟩
theorem isF18:IsF Tryz.prog 18:=⟨_,Tryz.func18,by kernel_rfl,rfl⟩
theorem isF23:IsF Tryz.prog 23:=⟨_,Tryz.func23,by kernel_rfl,rfl⟩
theorem isF24:IsF Tryz.prog 24:=⟨_,Tryz.func24,by kernel_rfl,rfl⟩
theorem isF26:IsF Tryz.prog 26:=⟨_,Tryz.func26,by kernel_rfl,rfl⟩
theorem isF27:IsF Tryz.prog 27:=⟨_,Tryz.func27,by kernel_rfl,rfl⟩
theorem isF28:IsF Tryz.prog 28:=⟨_,Tryz.func28,by kernel_rfl,rfl⟩
theorem isF29:IsF Tryz.prog 29:=⟨_,Tryz.func29,by kernel_rfl,rfl⟩
theorem isF30:IsF Tryz.prog 30:=⟨_,Tryz.func30,by kernel_rfl,rfl⟩
theorem isF31:IsF Tryz.prog 31:=⟨_,Tryz.func31,by kernel_rfl,rfl⟩
theorem isF32:IsF Tryz.prog 32:=⟨_,Tryz.func32,by kernel_rfl,rfl⟩
theorem isF33:IsF Tryz.prog 33:=⟨_,Tryz.func33,by kernel_rfl,rfl⟩
theorem isF34:IsF Tryz.prog 34:=⟨_,Tryz.func34,by kernel_rfl,rfl⟩
theorem isF35:IsF Tryz.prog 35:=⟨_,Tryz.func35,by kernel_rfl,rfl⟩
theorem isF36:IsF Tryz.prog 36:=⟨_,Tryz.func36,by kernel_rfl,rfl⟩
theorem isF37:IsF Tryz.prog 37:=⟨_,Tryz.func37,by kernel_rfl,rfl⟩
theorem isF38:IsF Tryz.prog 38:=⟨_,Tryz.func38,by kernel_rfl,rfl⟩
theorem isF40:IsF Tryz.prog 40:=⟨_,Tryz.func40,by kernel_rfl,rfl⟩
theorem isF41:IsF Tryz.prog 41:=⟨_,Tryz.func41,by kernel_rfl,rfl⟩
theorem isF42:IsF Tryz.prog 42:=⟨_,Tryz.func42,by kernel_rfl,rfl⟩
theorem isF43:IsF Tryz.prog 43:=⟨_,Tryz.func43,by kernel_rfl,rfl⟩
theorem isF45:IsF Tryz.prog 45:=⟨_,Tryz.func45,by kernel_rfl,rfl⟩
theorem isF46:IsF Tryz.prog 46:=⟨_,Tryz.func46,by kernel_rfl,rfl⟩
theorem isF47:IsF Tryz.prog 47:=⟨_,Tryz.func47,by kernel_rfl,rfl⟩
theorem isF48:IsF Tryz.prog 48:=⟨_,Tryz.func48,by kernel_rfl,rfl⟩
theorem isF49:IsF Tryz.prog 49:=⟨_,Tryz.func49,by kernel_rfl,rfl⟩
theorem isF50:IsF Tryz.prog 50:=⟨_,Tryz.func50,by kernel_rfl,rfl⟩
theorem isF51:IsF Tryz.prog 51:=⟨_,Tryz.func51,by kernel_rfl,rfl⟩
theorem isF52:IsF Tryz.prog 52:=⟨_,Tryz.func52,by kernel_rfl,rfl⟩
theorem isF53:IsF Tryz.prog 53:=⟨_,Tryz.func53,by kernel_rfl,rfl⟩
theorem isF54:IsF Tryz.prog 54:=⟨_,Tryz.func54,by kernel_rfl,rfl⟩
theorem isF55:IsF Tryz.prog 55:=⟨_,Tryz.func55,by kernel_rfl,rfl⟩
theorem isF56:IsF Tryz.prog 56:=⟨_,Tryz.func56,by kernel_rfl,rfl⟩
theorem isF57:IsF Tryz.prog 57:=⟨_,Tryz.func57,by kernel_rfl,rfl⟩
theorem isF58:IsF Tryz.prog 58:=⟨_,Tryz.func58,by kernel_rfl,rfl⟩
theorem isF59:IsF Tryz.prog 59:=⟨_,Tryz.func59,by kernel_rfl,rfl⟩
theorem isF60:IsF Tryz.prog 60:=⟨_,Tryz.func60,by kernel_rfl,rfl⟩
theorem isF61:IsF Tryz.prog 61:=⟨_,Tryz.func61,by kernel_rfl,rfl⟩
theorem isF62:IsF Tryz.prog 62:=⟨_,Tryz.func62,by kernel_rfl,rfl⟩
theorem isF63:IsF Tryz.prog 63:=⟨_,Tryz.func63,by kernel_rfl,rfl⟩
theorem isF64:IsF Tryz.prog 64:=⟨_,Tryz.func64,by kernel_rfl,rfl⟩
theorem isF65:IsF Tryz.prog 65:=⟨_,Tryz.func65,by kernel_rfl,rfl⟩
theorem isF66:IsF Tryz.prog 66:=⟨_,Tryz.func66,by kernel_rfl,rfl⟩
theorem isF69:IsF Tryz.prog 69:=⟨_,Tryz.func69,by kernel_rfl,rfl⟩
theorem isF70:IsF Tryz.prog 70:=⟨_,Tryz.func70,by kernel_rfl,rfl⟩
theorem isF71:IsF Tryz.prog 71:=⟨_,Tryz.func71,by kernel_rfl,rfl⟩
theorem isF72:IsF Tryz.prog 72:=⟨_,Tryz.func72,by kernel_rfl,rfl⟩
theorem isF73:IsF Tryz.prog 73:=⟨_,Tryz.func73,by kernel_rfl,rfl⟩
theorem isF74:IsF Tryz.prog 74:=⟨_,Tryz.func74,by kernel_rfl,rfl⟩
theorem isF75:IsF Tryz.prog 75:=⟨_,Tryz.func75,by kernel_rfl,rfl⟩
theorem isF76:IsF Tryz.prog 76:=⟨_,Tryz.func76,by kernel_rfl,rfl⟩
theorem isF77:IsF Tryz.prog 77:=⟨_,Tryz.func77,by kernel_rfl,rfl⟩
theorem isF78:IsF Tryz.prog 78:=⟨_,Tryz.func78,by kernel_rfl,rfl⟩
theorem isF79:IsF Tryz.prog 79:=⟨_,Tryz.func79,by kernel_rfl,rfl⟩
theorem isF80:IsF Tryz.prog 80:=⟨_,Tryz.func80,by kernel_rfl,rfl⟩
theorem isF81:IsF Tryz.prog 81:=⟨_,Tryz.func81,by kernel_rfl,rfl⟩
theorem isF82:IsF Tryz.prog 82:=⟨_,Tryz.func82,by kernel_rfl,rfl⟩
theorem isF83:IsF Tryz.prog 83:=⟨_,Tryz.func83,by kernel_rfl,rfl⟩
theorem isF84:IsF Tryz.prog 84:=⟨_,Tryz.func84,by kernel_rfl,rfl⟩
theorem isF85:IsF Tryz.prog 85:=⟨_,Tryz.func85,by kernel_rfl,rfl⟩
theorem isF86:IsF Tryz.prog 86:=⟨_,Tryz.func86,by kernel_rfl,rfl⟩
theorem isF87:IsF Tryz.prog 87:=⟨_,Tryz.func87,by kernel_rfl,rfl⟩
theorem isF88:IsF Tryz.prog 88:=⟨_,Tryz.func88,by kernel_rfl,rfl⟩
theorem isF89:IsF Tryz.prog 89:=⟨_,Tryz.func89,by kernel_rfl,rfl⟩
theorem isF90:IsF Tryz.prog 90:=⟨_,Tryz.func90,by kernel_rfl,rfl⟩
theorem isF91:IsF Tryz.prog 91:=⟨_,Tryz.func91,by kernel_rfl,rfl⟩
theorem isF92:IsF Tryz.prog 92:=⟨_,Tryz.func92,by kernel_rfl,rfl⟩
theorem isF93:IsF Tryz.prog 93:=⟨_,Tryz.func93,by kernel_rfl,rfl⟩
theorem isF94:IsF Tryz.prog 94:=⟨_,Tryz.func94,by kernel_rfl,rfl⟩
theorem isF95:IsF Tryz.prog 95:=⟨_,Tryz.func95,by kernel_rfl,rfl⟩
theorem isF96:IsF Tryz.prog 96:=⟨_,Tryz.func96,by kernel_rfl,rfl⟩
theorem isF97:IsF Tryz.prog 97:=⟨_,Tryz.func97,by kernel_rfl,rfl⟩
theorem isF100:IsF Tryz.prog 100:=⟨_,Tryz.func100,by kernel_rfl,rfl⟩
theorem isF101:IsF Tryz.prog 101:=⟨_,Tryz.func101,by kernel_rfl,rfl⟩
theorem isF102:IsF Tryz.prog 102:=⟨_,Tryz.func102,by kernel_rfl,rfl⟩
theorem isF103:IsF Tryz.prog 103:=⟨_,Tryz.func103,by kernel_rfl,rfl⟩
theorem isF104:IsF Tryz.prog 104:=⟨_,Tryz.func104,by kernel_rfl,rfl⟩
theorem isF105:IsF Tryz.prog 105:=⟨_,Tryz.func105,by kernel_rfl,rfl⟩
theorem isF106:IsF Tryz.prog 106:=⟨_,Tryz.func106,by kernel_rfl,rfl⟩
theorem isF109:IsF Tryz.prog 109:=⟨_,Tryz.func109,by kernel_rfl,rfl⟩
end Go.Proofs.YtmollikhdbaikaaGreat
