import Derived.Test.YtmollikhdbaikaaGreatProg
import Derived.Test.YtmollikhdbaikaaGreatZLb
import Derived.Test.YtmollikhdbaikaaGreatZLc
namespace Go.Proofs.YtmollikhdbaikaaGreat
open Go.L
theorem bb:tsize Tryz.prog 3=1:=by kernel_rfl
theorem bN:tagg Tryz.prog 3=false:=by kernel_rfl
theorem aE:tok Tryz.prog 3=true:=by kernel_rfl
theorem Wc:tint Tryz.prog 3=some .i64:=by kernel_rfl
theorem Tr:tzero Tryz.prog 3=some (.int .i64 0):=by kernel_rfl
theorem qN:gy Tryz.prog 3=true:=by kernel_rfl
theorem lQ:tsize Tryz.prog 4=1:=by kernel_rfl
theorem wm:tagg Tryz.prog 4=false:=by kernel_rfl
theorem ka:tok Tryz.prog 4=true:=by kernel_rfl
theorem Uv:yW Tryz.prog 4=true:=by kernel_rfl
theorem Hi:gy Tryz.prog 4=true:=by kernel_rfl
theorem Wf:tsize Tryz.prog 5=1:=by kernel_rfl
theorem Ux:tint Tryz.prog 5=some .u8:=by kernel_rfl
theorem Wd:gy Tryz.prog 5=true:=by kernel_rfl
theorem wH:tsize Tryz.prog 9=1:=by kernel_rfl
theorem DA:tagg Tryz.prog 9=false:=by kernel_rfl
theorem oY:tok Tryz.prog 9=true:=by kernel_rfl
theorem Ig:DC Tryz.prog 9=true:=by kernel_rfl
theorem We:gy Tryz.prog 9=true:=by kernel_rfl
theorem jh:tsize Tryz.prog 22=1:=by kernel_rfl
theorem l9:tagg Tryz.prog 22=false:=by kernel_rfl
theorem eI:tok Tryz.prog 22=true:=by kernel_rfl
theorem cz:telem Tryz.prog 22=some 3:=by kernel_rfl
theorem gn:telem Tryz.prog 25=some 63:=by kernel_rfl
theorem dA:tsize Tryz.prog 28=1:=by kernel_rfl
theorem fD:tagg Tryz.prog 28=false:=by kernel_rfl
theorem cc:tok Tryz.prog 28=true:=by kernel_rfl
theorem dZ:telem Tryz.prog 28=some 49:=by kernel_rfl
theorem bB:tsize Tryz.prog 30=1:=by kernel_rfl
theorem cD:tagg Tryz.prog 30=true:=by kernel_rfl
theorem bA:tok Tryz.prog 30=true:=by kernel_rfl
theorem fF:tzero Tryz.prog 30=some (.agg [.nil]):=by kernel_rfl
theorem lk:tbuild Tryz.prog 30=true:=by kernel_rfl
theorem ca:tfield Tryz.prog 30 0=some (0,28):=by kernel_rfl
theorem mH:telem Tryz.prog 31=some 84:=by kernel_rfl
theorem y3:tsize Tryz.prog 32=1:=by kernel_rfl
theorem yY:tok Tryz.prog 32=true:=by kernel_rfl
theorem mI:telem Tryz.prog 40=some 43:=by kernel_rfl
theorem eJ:tsize Tryz.prog 43=2:=by kernel_rfl
theorem qf:tagg Tryz.prog 43=true:=by kernel_rfl
theorem fg:tok Tryz.prog 43=true:=by kernel_rfl
theorem A6:tzero Tryz.prog 43=some (.agg [.int .i64 0,.int .i64 0]):=by kernel_rfl
theorem Ii:gy Tryz.prog 43=true:=by kernel_rfl
theorem A5:tbuild Tryz.prog 43=true:=by kernel_rfl
theorem iN:tfield Tryz.prog 43 0=some (0,3):=by kernel_rfl
theorem eS:tfield Tryz.prog 43 1=some (1,3):=by kernel_rfl
theorem ig:tsize Tryz.prog 45=1:=by kernel_rfl
theorem j7:tagg Tryz.prog 45=false:=by kernel_rfl
theorem dM:tok Tryz.prog 45=true:=by kernel_rfl
theorem ic:telem Tryz.prog 45=some 54:=by kernel_rfl
theorem ji:tsize Tryz.prog 46=1:=by kernel_rfl
theorem nF:tagg Tryz.prog 46=false:=by kernel_rfl
theorem eX:tok Tryz.prog 46=true:=by kernel_rfl
theorem j8:telem Tryz.prog 46=some 4:=by kernel_rfl
theorem jj:tsize Tryz.prog 47=1:=by kernel_rfl
theorem lj:tagg Tryz.prog 47=false:=by kernel_rfl
theorem eu:tok Tryz.prog 47=true:=by kernel_rfl
theorem jt:telem Tryz.prog 47=some 88:=by kernel_rfl
theorem cK:tsize Tryz.prog 49=5:=by kernel_rfl
theorem js:tagg Tryz.prog 49=true:=by kernel_rfl
theorem dh:tok Tryz.prog 49=true:=by kernel_rfl
theorem tK:tzero Tryz.prog 49=some (.agg [.int .i64 0,.nil,.nil,.nil,.bool false]):=by kernel_rfl
theorem qk:gy Tryz.prog 49=true:=by kernel_rfl
theorem Qb:tbuild Tryz.prog 49=true:=by kernel_rfl
theorem fY:tfield Tryz.prog 49 0=some (0,3):=by kernel_rfl
theorem dy:tfield Tryz.prog 49 1=some (1,45):=by kernel_rfl
theorem eA:tfield Tryz.prog 49 2=some (2,46):=by kernel_rfl
theorem ej:tfield Tryz.prog 49 3=some (3,47):=by kernel_rfl
theorem ju:tfield Tryz.prog 49 4=some (4,4):=by kernel_rfl
theorem fy:tsize Tryz.prog 52=1:=by kernel_rfl
theorem iL:tagg Tryz.prog 52=false:=by kernel_rfl
theorem cY:tok Tryz.prog 52=true:=by kernel_rfl
theorem gj:telem Tryz.prog 52=some 86:=by kernel_rfl
theorem ct:tsize Tryz.prog 54=5:=by kernel_rfl
theorem fo:tagg Tryz.prog 54=true:=by kernel_rfl
theorem cG:tok Tryz.prog 54=true:=by kernel_rfl
theorem A7:tzero Tryz.prog 54=some (.agg [.int .i64 0,.int .i64 0,.str (ByteArray.mk #[]),.nil,.nil]):=by kernel_rfl
theorem A2:gy Tryz.prog 54=true:=by kernel_rfl
theorem Qc:tbuild Tryz.prog 54=true:=by kernel_rfl
theorem e6:tfield Tryz.prog 54 0=some (0,3):=by kernel_rfl
theorem fE:tfield Tryz.prog 54 1=some (1,3):=by kernel_rfl
theorem gJ:tfield Tryz.prog 54 2=some (2,9):=by kernel_rfl
theorem cX:tfield Tryz.prog 54 3=some (3,52):=by kernel_rfl
theorem fp:tfield Tryz.prog 54 4=some (4,22):=by kernel_rfl
theorem bW:tsize Tryz.prog 61=3:=by kernel_rfl
theorem fX:tagg Tryz.prog 61=true:=by kernel_rfl
theorem b6:tok Tryz.prog 61=true:=by kernel_rfl
theorem uo:tzero Tryz.prog 61=some (.agg [.int .i64 0,.int .i64 0,.int .i64 0]):=by kernel_rfl
theorem LN:gy Tryz.prog 61=true:=by kernel_rfl
theorem GU:tbuild Tryz.prog 61=true:=by kernel_rfl
theorem e7:tfield Tryz.prog 61 0=some (0,3):=by kernel_rfl
theorem ek:tfield Tryz.prog 61 1=some (1,3):=by kernel_rfl
theorem dz:tfield Tryz.prog 61 2=some (2,3):=by kernel_rfl
theorem ew:tsize Tryz.prog 63=12:=by kernel_rfl
theorem me:tagg Tryz.prog 63=true:=by kernel_rfl
theorem fx:tok Tryz.prog 63=true:=by kernel_rfl
theorem y7:tzero Tryz.prog 63=some (.agg [.int .i64 0,.int .i64 0,.int .i64 0,.int .i64 0,.int .i64 0,.int .i64 0,.str (ByteArray.mk #[]),.nil,.nil,.int .i64 0,.int .i64 0,.int .i64 0]):=by kernel_rfl
theorem y2:gy Tryz.prog 63=true:=by kernel_rfl
theorem Ij:tbuild Tryz.prog 63=true:=by kernel_rfl
theorem db:tfield Tryz.prog 63 0=some (0,61):=by kernel_rfl
theorem e8:tfield Tryz.prog 63 1=some (3,3):=by kernel_rfl
theorem e9:tfield Tryz.prog 63 2=some (4,54):=by kernel_rfl
theorem eT:tfield Tryz.prog 63 3=some (9,43):=by kernel_rfl
theorem kR:tfield Tryz.prog 63 4=some (11,3):=by kernel_rfl
theorem Qf:tzero Tryz.prog 68=some (.agg [.nil,.int .i64 0]):=by kernel_rfl
theorem Qd:tbuild Tryz.prog 68=true:=by kernel_rfl
theorem wq:tfield Tryz.prog 68 0=some (0,22):=by kernel_rfl
theorem wu:tfield Tryz.prog 68 1=some (1,3):=by kernel_rfl
theorem A8:tzero Tryz.prog 78=some (.lZ):=by kernel_rfl
theorem y4:tsize Tryz.prog 82=2:=by kernel_rfl
theorem yZ:tok Tryz.prog 82=true:=by kernel_rfl
theorem y8:tzero Tryz.prog 82=some (.agg [.int .i64 0,.int .i64 0]):=by kernel_rfl
theorem y5:tbuild Tryz.prog 82=true:=by kernel_rfl
theorem mJ:tfield Tryz.prog 82 0=some (0,3):=by kernel_rfl
theorem mK:tfield Tryz.prog 82 1=some (1,3):=by kernel_rfl
theorem nH:tsize Tryz.prog 84=3:=by kernel_rfl
theorem y9:tzero Tryz.prog 84=some (.agg [.int .i64 0,.int .i64 0,.int .i64 0]):=by kernel_rfl
theorem nG:gy Tryz.prog 84=true:=by kernel_rfl
theorem y6:tbuild Tryz.prog 84=true:=by kernel_rfl
theorem mL:tfield Tryz.prog 84 0=some (0,82):=by kernel_rfl
theorem mO:tfield Tryz.prog 84 1=some (2,32):=by kernel_rfl
theorem dB:tsize Tryz.prog 86=6:=by kernel_rfl
theorem iM:tagg Tryz.prog 86=true:=by kernel_rfl
theorem ee:tok Tryz.prog 86=true:=by kernel_rfl
theorem GV:tzero Tryz.prog 86=some (.agg [.int .i64 0,.int .i64 0,.int .i64 0,.int .i64 0,.int .i64 0,.int .i64 0]):=by kernel_rfl
theorem A3:gy Tryz.prog 86=true:=by kernel_rfl
theorem Qe:tbuild Tryz.prog 86=true:=by kernel_rfl
theorem oS:tfield Tryz.prog 86 0=some (0,3):=by kernel_rfl
theorem mP:tfield Tryz.prog 86 1=some (1,3):=by kernel_rfl
theorem qg:tfield Tryz.prog 86 2=some (2,3):=by kernel_rfl
theorem qh:tfield Tryz.prog 86 3=some (3,3):=by kernel_rfl
theorem j9:tfield Tryz.prog 86 4=some (4,3):=by kernel_rfl
theorem mQ:tfield Tryz.prog 86 5=some (5,3):=by kernel_rfl
theorem nI:tsize Tryz.prog 88=3:=by kernel_rfl
theorem P7:tagg Tryz.prog 88=true:=by kernel_rfl
theorem wy:tok Tryz.prog 88=true:=by kernel_rfl
theorem Ik:tzero Tryz.prog 88=some (.agg [.int .i64 0,.int .i64 0,.int .i64 0]):=by kernel_rfl
theorem A4:gy Tryz.prog 88=true:=by kernel_rfl
theorem LO:tbuild Tryz.prog 88=true:=by kernel_rfl
theorem oT:tfield Tryz.prog 88 0=some (0,3):=by kernel_rfl
theorem wv:tfield Tryz.prog 88 1=some (1,3):=by kernel_rfl
theorem wx:tfield Tryz.prog 88 2=some (2,3):=by kernel_rfl
theorem JC:telem Tryz.prog 105=some 9:=by kernel_rfl
theorem mG:tagg Tryz.prog 111=false:=by kernel_rfl
theorem mR:tok Tryz.prog 111=true:=by kernel_rfl
theorem eU:telem Tryz.prog 111=some 61:=by kernel_rfl
theorem JD:telem Tryz.prog 121=some 5:=by kernel_rfl
theorem nU:fI Tryz.prog 127=true:=by kernel_rfl
theorem qM:telem Tryz.prog 134=some 137:=by kernel_rfl
theorem qO:tsize Tryz.prog 137=2:=by kernel_rfl
theorem P6:tagg Tryz.prog 137=true:=by kernel_rfl
theorem va:tok Tryz.prog 137=true:=by kernel_rfl
theorem JG:tzero Tryz.prog 137=some (.agg [.int .i64 0,.bool false]):=by kernel_rfl
theorem JF:gy Tryz.prog 137=true:=by kernel_rfl
theorem Qa:tbuild Tryz.prog 137=true:=by kernel_rfl
theorem rJ:tfield Tryz.prog 137 0=some (0,3):=by kernel_rfl
theorem wo:tfield Tryz.prog 137 1=some (1,4):=by kernel_rfl
theorem P9:tok Tryz.prog 151=true:=by kernel_rfl
theorem P8:tint Tryz.prog 151=some .u64:=by kernel_rfl
theorem mixed:Tryz.prog.follows .mixedOrders=true:=by kernel_rfl
theorem SZ:eo Tryz.prog 7:=⟨_,Tryz.func7,by kernel_rfl,rfl⟩
theorem S0:eo Tryz.prog 8:=⟨_,Tryz.func8,by kernel_rfl,rfl⟩
theorem nD:eo Tryz.prog 9:=⟨_,Tryz.func9,by kernel_rfl,rfl⟩
theorem NW:eo Tryz.prog 10:=⟨_,Tryz.func10,by kernel_rfl,rfl⟩
theorem NX:eo Tryz.prog 11:=⟨_,Tryz.func11,by kernel_rfl,rfl⟩
theorem NY:eo Tryz.prog 14:=⟨_,Tryz.func14,by kernel_rfl,rfl⟩
theorem NZ:eo Tryz.prog 15:=⟨_,Tryz.func15,by kernel_rfl,rfl⟩
theorem BC:eo Tryz.prog 16:=⟨_,Tryz.func16,by kernel_rfl,rfl⟩
theorem I0:eo Tryz.prog 17:=⟨_,Tryz.func17,by kernel_rfl,rfl⟩
theorem sM:eo Tryz.prog 18:=⟨_,Tryz.func18,by kernel_rfl,rfl⟩
theorem N0:eo Tryz.prog 24:=⟨_,Tryz.func24,by kernel_rfl,rfl⟩
theorem N1:eo Tryz.prog 26:=⟨_,Tryz.func26,by kernel_rfl,rfl⟩
theorem gw:eo Tryz.prog 27:=⟨_,Tryz.func27,by kernel_rfl,rfl⟩
theorem xr:eo Tryz.prog 28:=⟨_,Tryz.func28,by kernel_rfl,rfl⟩
theorem N2:eo Tryz.prog 29:=⟨_,Tryz.func29,by kernel_rfl,rfl⟩
theorem sO:eo Tryz.prog 30:=⟨_,Tryz.func30,by kernel_rfl,rfl⟩
theorem N3:eo Tryz.prog 31:=⟨_,Tryz.func31,by kernel_rfl,rfl⟩
theorem N4:eo Tryz.prog 32:=⟨_,Tryz.func32,by kernel_rfl,rfl⟩
theorem N5:eo Tryz.prog 33:=⟨_,Tryz.func33,by kernel_rfl,rfl⟩
theorem N6:eo Tryz.prog 34:=⟨_,Tryz.func34,by kernel_rfl,rfl⟩
theorem N7:eo Tryz.prog 35:=⟨_,Tryz.func35,by kernel_rfl,rfl⟩
theorem I1:eo Tryz.prog 36:=⟨_,Tryz.func36,by kernel_rfl,rfl⟩
theorem N8:eo Tryz.prog 37:=⟨_,Tryz.func37,by kernel_rfl,rfl⟩
theorem I2:eo Tryz.prog 38:=⟨_,Tryz.func38,by kernel_rfl,rfl⟩
theorem xt:eo Tryz.prog 40:=⟨_,Tryz.func40,by kernel_rfl,rfl⟩
theorem Ft:eo Tryz.prog 41:=⟨_,Tryz.func41,by kernel_rfl,rfl⟩
theorem N9:eo Tryz.prog 42:=⟨_,Tryz.func42,by kernel_rfl,rfl⟩
theorem Oa:eo Tryz.prog 43:=⟨_,Tryz.func43,by kernel_rfl,rfl⟩
theorem Ob:eo Tryz.prog 45:=⟨_,Tryz.func45,by kernel_rfl,rfl⟩
theorem Oc:eo Tryz.prog 46:=⟨_,Tryz.func46,by kernel_rfl,rfl⟩
theorem Od:eo Tryz.prog 47:=⟨_,Tryz.func47,by kernel_rfl,rfl⟩
theorem Oe:eo Tryz.prog 48:=⟨_,Tryz.func48,by kernel_rfl,rfl⟩
theorem I3:eo Tryz.prog 49:=⟨_,Tryz.func49,by kernel_rfl,rfl⟩
theorem Of:eo Tryz.prog 50:=⟨_,Tryz.func50,by kernel_rfl,rfl⟩
theorem Og:eo Tryz.prog 51:=⟨_,Tryz.func51,by kernel_rfl,rfl⟩
theorem I4:eo Tryz.prog 52:=⟨_,Tryz.func52,by kernel_rfl,rfl⟩
theorem uI:eo Tryz.prog 53:=⟨_,Tryz.func53,by kernel_rfl,rfl⟩
theorem Oh:eo Tryz.prog 54:=⟨_,Tryz.func54,by kernel_rfl,rfl⟩
theorem Oi:eo Tryz.prog 55:=⟨_,Tryz.func55,by kernel_rfl,rfl⟩
theorem Oj:eo Tryz.prog 56:=⟨_,Tryz.func56,by kernel_rfl,rfl⟩
theorem Ol:eo Tryz.prog 57:=⟨_,Tryz.func57,by kernel_rfl,rfl⟩
theorem Om:eo Tryz.prog 58:=⟨_,Tryz.func58,by kernel_rfl,rfl⟩
theorem On:eo Tryz.prog 59:=⟨_,Tryz.func59,by kernel_rfl,rfl⟩
theorem Oo:eo Tryz.prog 60:=⟨_,Tryz.func60,by kernel_rfl,rfl⟩
theorem I5:eo Tryz.prog 61:=⟨_,Tryz.func61,by kernel_rfl,rfl⟩
theorem Oq:eo Tryz.prog 62:=⟨_,Tryz.func62,by kernel_rfl,rfl⟩
theorem Ot:eo Tryz.prog 63:=⟨_,Tryz.func63,by kernel_rfl,rfl⟩
theorem I6:eo Tryz.prog 64:=⟨_,Tryz.func64,by kernel_rfl,rfl⟩
theorem Ou:eo Tryz.prog 65:=⟨_,Tryz.func65,by kernel_rfl,rfl⟩
theorem Fu:eo Tryz.prog 66:=⟨_,Tryz.func66,by kernel_rfl,rfl⟩
theorem Ov:eo Tryz.prog 69:=⟨_,Tryz.func69,by kernel_rfl,rfl⟩
theorem Ow:eo Tryz.prog 70:=⟨_,Tryz.func70,by kernel_rfl,rfl⟩
theorem xu:eo Tryz.prog 71:=⟨_,Tryz.func71,by kernel_rfl,rfl⟩
theorem Ox:eo Tryz.prog 72:=⟨_,Tryz.func72,by kernel_rfl,rfl⟩
theorem Oy:eo Tryz.prog 73:=⟨_,Tryz.func73,by kernel_rfl,rfl⟩
theorem Oz:eo Tryz.prog 74:=⟨_,Tryz.func74,by kernel_rfl,rfl⟩
theorem Fv:eo Tryz.prog 75:=⟨_,Tryz.func75,by kernel_rfl,rfl⟩
theorem I7:eo Tryz.prog 76:=⟨_,Tryz.func76,by kernel_rfl,rfl⟩
theorem OA:eo Tryz.prog 77:=⟨_,Tryz.func77,by kernel_rfl,rfl⟩
theorem Fw:eo Tryz.prog 78:=⟨_,Tryz.func78,by kernel_rfl,rfl⟩
theorem I8:eo Tryz.prog 79:=⟨_,Tryz.func79,by kernel_rfl,rfl⟩
theorem OB:eo Tryz.prog 80:=⟨_,Tryz.func80,by kernel_rfl,rfl⟩
theorem I9:eo Tryz.prog 81:=⟨_,Tryz.func81,by kernel_rfl,rfl⟩
theorem OC:eo Tryz.prog 82:=⟨_,Tryz.func82,by kernel_rfl,rfl⟩
theorem OD:eo Tryz.prog 83:=⟨_,Tryz.func83,by kernel_rfl,rfl⟩
theorem OE:eo Tryz.prog 84:=⟨_,Tryz.func84,by kernel_rfl,rfl⟩
theorem OF:eo Tryz.prog 85:=⟨_,Tryz.func85,by kernel_rfl,rfl⟩
theorem Ja:eo Tryz.prog 86:=⟨_,Tryz.func86,by kernel_rfl,rfl⟩
theorem OG:eo Tryz.prog 87:=⟨_,Tryz.func87,by kernel_rfl,rfl⟩
theorem OH:eo Tryz.prog 88:=⟨_,Tryz.func88,by kernel_rfl,rfl⟩
theorem OI:eo Tryz.prog 89:=⟨_,Tryz.func89,by kernel_rfl,rfl⟩
theorem OJ:eo Tryz.prog 90:=⟨_,Tryz.func90,by kernel_rfl,rfl⟩
theorem Jb:eo Tryz.prog 91:=⟨_,Tryz.func91,by kernel_rfl,rfl⟩
theorem OK:eo Tryz.prog 92:=⟨_,Tryz.func92,by kernel_rfl,rfl⟩
theorem OL:eo Tryz.prog 93:=⟨_,Tryz.func93,by kernel_rfl,rfl⟩
theorem OM:eo Tryz.prog 94:=⟨_,Tryz.func94,by kernel_rfl,rfl⟩
theorem ON:eo Tryz.prog 95:=⟨_,Tryz.func95,by kernel_rfl,rfl⟩
theorem OO:eo Tryz.prog 96:=⟨_,Tryz.func96,by kernel_rfl,rfl⟩
theorem sP:eo Tryz.prog 97:=⟨_,Tryz.func97,by kernel_rfl,rfl⟩
theorem Fp:eo Tryz.prog 100:=⟨_,Tryz.func100,by kernel_rfl,rfl⟩
theorem Lc:eo Tryz.prog 101:=⟨_,Tryz.func101,by kernel_rfl,rfl⟩
theorem vK:eo Tryz.prog 102:=⟨_,Tryz.func102,by kernel_rfl,rfl⟩
theorem Ld:eo Tryz.prog 103:=⟨_,Tryz.func103,by kernel_rfl,rfl⟩
theorem Lf:eo Tryz.prog 104:=⟨_,Tryz.func104,by kernel_rfl,rfl⟩
theorem Aq:eo Tryz.prog 105:=⟨_,Tryz.func105,by kernel_rfl,rfl⟩
theorem Fq:eo Tryz.prog 106:=⟨_,Tryz.func106,by kernel_rfl,rfl⟩
theorem Fs:eo Tryz.prog 109:=⟨_,Tryz.func109,by kernel_rfl,rfl⟩
end Go.Proofs.YtmollikhdbaikaaGreat
