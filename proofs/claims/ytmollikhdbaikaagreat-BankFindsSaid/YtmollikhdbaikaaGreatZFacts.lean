import Derived.Test.YtmollikhdbaikaaGreatProg
import Derived.Test.YtmollikhdbaikaaGreatZLb
import Derived.Test.YtmollikhdbaikaaGreatZLc
namespace Go.Proofs.YtmollikhdbaikaaGreat
open Go.L
theorem ba:tsize Tryz.prog 3=1:=by kernel_rfl
theorem bQ:tagg Tryz.prog 3=false:=by kernel_rfl
theorem aD:tok Tryz.prog 3=true:=by kernel_rfl
theorem WA:tint Tryz.prog 3=some .i64:=by kernel_rfl
theorem TQ:tzero Tryz.prog 3=some (.int .i64 0):=by kernel_rfl
theorem qV:gI Tryz.prog 3=true:=by kernel_rfl
theorem lC:tsize Tryz.prog 4=1:=by kernel_rfl
theorem uC:tagg Tryz.prog 4=false:=by kernel_rfl
theorem jC:tok Tryz.prog 4=true:=by kernel_rfl
theorem L8:vw Tryz.prog 4=true:=by kernel_rfl
theorem Hv:gI Tryz.prog 4=true:=by kernel_rfl
theorem WD:tsize Tryz.prog 5=1:=by kernel_rfl
theorem UU:tint Tryz.prog 5=some .u8:=by kernel_rfl
theorem WB:gI Tryz.prog 5=true:=by kernel_rfl
theorem xc:tsize Tryz.prog 9=1:=by kernel_rfl
theorem DP:tagg Tryz.prog 9=false:=by kernel_rfl
theorem o8:tok Tryz.prog 9=true:=by kernel_rfl
theorem Iy:DR Tryz.prog 9=true:=by kernel_rfl
theorem WC:gI Tryz.prog 9=true:=by kernel_rfl
theorem jq:tsize Tryz.prog 22=1:=by kernel_rfl
theorem mo:tagg Tryz.prog 22=false:=by kernel_rfl
theorem eM:tok Tryz.prog 22=true:=by kernel_rfl
theorem cE:telem Tryz.prog 22=some 3:=by kernel_rfl
theorem gA:telem Tryz.prog 25=some 63:=by kernel_rfl
theorem dC:tsize Tryz.prog 28=1:=by kernel_rfl
theorem fA:tagg Tryz.prog 28=false:=by kernel_rfl
theorem cm:tok Tryz.prog 28=true:=by kernel_rfl
theorem dW:telem Tryz.prog 28=some 49:=by kernel_rfl
theorem bx:tsize Tryz.prog 30=1:=by kernel_rfl
theorem cF:tagg Tryz.prog 30=true:=by kernel_rfl
theorem bw:tok Tryz.prog 30=true:=by kernel_rfl
theorem fM:tzero Tryz.prog 30=some (.agg [.nil]):=by kernel_rfl
theorem ly:tbuild Tryz.prog 30=true:=by kernel_rfl
theorem cd:tfield Tryz.prog 30 0=some (0,28):=by kernel_rfl
theorem mO:telem Tryz.prog 31=some 84:=by kernel_rfl
theorem zj:tsize Tryz.prog 32=1:=by kernel_rfl
theorem ze:tok Tryz.prog 32=true:=by kernel_rfl
theorem G3:telem Tryz.prog 40=some 43:=by kernel_rfl
theorem gv:tsize Tryz.prog 43=2:=by kernel_rfl
theorem wL:tagg Tryz.prog 43=true:=by kernel_rfl
theorem gH:tok Tryz.prog 43=true:=by kernel_rfl
theorem uE:tzero Tryz.prog 43=some (.agg [.int .i64 0,.int .i64 0]):=by kernel_rfl
theorem Qz:gI Tryz.prog 43=true:=by kernel_rfl
theorem uD:tbuild Tryz.prog 43=true:=by kernel_rfl
theorem fJ:tfield Tryz.prog 43 0=some (0,3):=by kernel_rfl
theorem dm:tfield Tryz.prog 43 1=some (1,3):=by kernel_rfl
theorem eY:tsize Tryz.prog 45=1:=by kernel_rfl
theorem gr:tagg Tryz.prog 45=false:=by kernel_rfl
theorem cL:tok Tryz.prog 45=true:=by kernel_rfl
theorem eU:telem Tryz.prog 45=some 54:=by kernel_rfl
theorem gJ:tsize Tryz.prog 46=1:=by kernel_rfl
theorem lu:tagg Tryz.prog 46=false:=by kernel_rfl
theorem dX:tok Tryz.prog 46=true:=by kernel_rfl
theorem jo:telem Tryz.prog 46=some 4:=by kernel_rfl
theorem gW:tsize Tryz.prog 47=1:=by kernel_rfl
theorem km:tagg Tryz.prog 47=false:=by kernel_rfl
theorem dP:tok Tryz.prog 47=true:=by kernel_rfl
theorem iV:telem Tryz.prog 47=some 88:=by kernel_rfl
theorem b8:tsize Tryz.prog 49=5:=by kernel_rfl
theorem fR:tagg Tryz.prog 49=true:=by kernel_rfl
theorem cC:tok Tryz.prog 49=true:=by kernel_rfl
theorem lz:tzero Tryz.prog 49=some (.agg [.int .i64 0,.nil,.nil,.nil,.bool false]):=by kernel_rfl
theorem qq:gI Tryz.prog 49=true:=by kernel_rfl
theorem IB:tbuild Tryz.prog 49=true:=by kernel_rfl
theorem e8:tfield Tryz.prog 49 0=some (0,3):=by kernel_rfl
theorem cH:tfield Tryz.prog 49 1=some (1,45):=by kernel_rfl
theorem dG:tfield Tryz.prog 49 2=some (2,46):=by kernel_rfl
theorem dH:tfield Tryz.prog 49 3=some (3,47):=by kernel_rfl
theorem iW:tfield Tryz.prog 49 4=some (4,4):=by kernel_rfl
theorem fC:tsize Tryz.prog 52=1:=by kernel_rfl
theorem iT:tagg Tryz.prog 52=false:=by kernel_rfl
theorem c8:tok Tryz.prog 52=true:=by kernel_rfl
theorem gu:telem Tryz.prog 52=some 86:=by kernel_rfl
theorem bN:tsize Tryz.prog 54=5:=by kernel_rfl
theorem dO:tagg Tryz.prog 54=true:=by kernel_rfl
theorem bT:tok Tryz.prog 54=true:=by kernel_rfl
theorem mr:tzero Tryz.prog 54=some (.agg [.int .i64 0,.int .i64 0,.str (ByteArray.mk #[]),.nil,.nil]):=by kernel_rfl
theorem zh:gI Tryz.prog 54=true:=by kernel_rfl
theorem G7:tbuild Tryz.prog 54=true:=by kernel_rfl
theorem e9:tfield Tryz.prog 54 0=some (0,3):=by kernel_rfl
theorem fL:tfield Tryz.prog 54 1=some (1,3):=by kernel_rfl
theorem gV:tfield Tryz.prog 54 2=some (2,9):=by kernel_rfl
theorem cZ:tfield Tryz.prog 54 3=some (3,52):=by kernel_rfl
theorem fq:tfield Tryz.prog 54 4=some (4,22):=by kernel_rfl
theorem b7:tsize Tryz.prog 61=3:=by kernel_rfl
theorem gj:tagg Tryz.prog 61=true:=by kernel_rfl
theorem cg:tok Tryz.prog 61=true:=by kernel_rfl
theorem uF:tzero Tryz.prog 61=some (.agg [.int .i64 0,.int .i64 0,.int .i64 0]):=by kernel_rfl
theorem Ma:gI Tryz.prog 61=true:=by kernel_rfl
theorem G8:tbuild Tryz.prog 61=true:=by kernel_rfl
theorem fa:tfield Tryz.prog 61 0=some (0,3):=by kernel_rfl
theorem eu:tfield Tryz.prog 61 1=some (1,3):=by kernel_rfl
theorem dI:tfield Tryz.prog 61 2=some (2,3):=by kernel_rfl
theorem eA:tsize Tryz.prog 63=12:=by kernel_rfl
theorem mq:tagg Tryz.prog 63=true:=by kernel_rfl
theorem fB:tok Tryz.prog 63=true:=by kernel_rfl
theorem zn:tzero Tryz.prog 63=some (.agg [.int .i64 0,.int .i64 0,.int .i64 0,.int .i64 0,.int .i64 0,.int .i64 0,.str (ByteArray.mk #[]),.nil,.nil,.int .i64 0,.int .i64 0,.int .i64 0]):=by kernel_rfl
theorem zi:gI Tryz.prog 63=true:=by kernel_rfl
theorem IC:tbuild Tryz.prog 63=true:=by kernel_rfl
theorem dh:tfield Tryz.prog 63 0=some (0,61):=by kernel_rfl
theorem fb:tfield Tryz.prog 63 1=some (3,3):=by kernel_rfl
theorem fc:tfield Tryz.prog 63 2=some (4,54):=by kernel_rfl
theorem eV:tfield Tryz.prog 63 3=some (9,43):=by kernel_rfl
theorem kY:tfield Tryz.prog 63 4=some (11,3):=by kernel_rfl
theorem QD:tzero Tryz.prog 68=some (.agg [.nil,.int .i64 0]):=by kernel_rfl
theorem QB:tbuild Tryz.prog 68=true:=by kernel_rfl
theorem wP:tfield Tryz.prog 68 0=some (0,22):=by kernel_rfl
theorem wQ:tfield Tryz.prog 68 1=some (1,3):=by kernel_rfl
theorem Bn:tzero Tryz.prog 78=some (.mj):=by kernel_rfl
theorem zk:tsize Tryz.prog 82=2:=by kernel_rfl
theorem zf:tok Tryz.prog 82=true:=by kernel_rfl
theorem zo:tzero Tryz.prog 82=some (.agg [.int .i64 0,.int .i64 0]):=by kernel_rfl
theorem zl:tbuild Tryz.prog 82=true:=by kernel_rfl
theorem mP:tfield Tryz.prog 82 0=some (0,3):=by kernel_rfl
theorem mQ:tfield Tryz.prog 82 1=some (1,3):=by kernel_rfl
theorem nO:tsize Tryz.prog 84=3:=by kernel_rfl
theorem zp:tzero Tryz.prog 84=some (.agg [.int .i64 0,.int .i64 0,.int .i64 0]):=by kernel_rfl
theorem nN:gI Tryz.prog 84=true:=by kernel_rfl
theorem zm:tbuild Tryz.prog 84=true:=by kernel_rfl
theorem mR:tfield Tryz.prog 84 0=some (0,82):=by kernel_rfl
theorem mV:tfield Tryz.prog 84 1=some (2,32):=by kernel_rfl
theorem dJ:tsize Tryz.prog 86=6:=by kernel_rfl
theorem iU:tagg Tryz.prog 86=true:=by kernel_rfl
theorem ek:tok Tryz.prog 86=true:=by kernel_rfl
theorem G9:tzero Tryz.prog 86=some (.agg [.int .i64 0,.int .i64 0,.int .i64 0,.int .i64 0,.int .i64 0,.int .i64 0]):=by kernel_rfl
theorem Bl:gI Tryz.prog 86=true:=by kernel_rfl
theorem QC:tbuild Tryz.prog 86=true:=by kernel_rfl
theorem oY:tfield Tryz.prog 86 0=some (0,3):=by kernel_rfl
theorem mY:tfield Tryz.prog 86 1=some (1,3):=by kernel_rfl
theorem qm:tfield Tryz.prog 86 2=some (2,3):=by kernel_rfl
theorem qo:tfield Tryz.prog 86 3=some (3,3):=by kernel_rfl
theorem ko:tfield Tryz.prog 86 4=some (4,3):=by kernel_rfl
theorem mZ:tfield Tryz.prog 86 5=some (5,3):=by kernel_rfl
theorem lN:tsize Tryz.prog 88=3:=by kernel_rfl
theorem Iz:tagg Tryz.prog 88=true:=by kernel_rfl
theorem rF:tok Tryz.prog 88=true:=by kernel_rfl
theorem IE:tzero Tryz.prog 88=some (.agg [.int .i64 0,.int .i64 0,.int .i64 0]):=by kernel_rfl
theorem Bm:gI Tryz.prog 88=true:=by kernel_rfl
theorem Mb:tbuild Tryz.prog 88=true:=by kernel_rfl
theorem oZ:tfield Tryz.prog 88 0=some (0,3):=by kernel_rfl
theorem wR:tfield Tryz.prog 88 1=some (1,3):=by kernel_rfl
theorem Bk:tfield Tryz.prog 88 2=some (2,3):=by kernel_rfl
theorem JV:telem Tryz.prog 105=some 9:=by kernel_rfl
theorem mL:tagg Tryz.prog 111=false:=by kernel_rfl
theorem na:tok Tryz.prog 111=true:=by kernel_rfl
theorem eW:telem Tryz.prog 111=some 61:=by kernel_rfl
theorem JW:telem Tryz.prog 121=some 5:=by kernel_rfl
theorem oa:fS Tryz.prog 127=true:=by kernel_rfl
theorem qU:telem Tryz.prog 134=some 137:=by kernel_rfl
theorem qW:tsize Tryz.prog 137=2:=by kernel_rfl
theorem Qw:tagg Tryz.prog 137=true:=by kernel_rfl
theorem vy:tok Tryz.prog 137=true:=by kernel_rfl
theorem JZ:tzero Tryz.prog 137=some (.agg [.int .i64 0,.bool false]):=by kernel_rfl
theorem JY:gI Tryz.prog 137=true:=by kernel_rfl
theorem QA:tbuild Tryz.prog 137=true:=by kernel_rfl
theorem rS:tfield Tryz.prog 137 0=some (0,3):=by kernel_rfl
theorem wM:tfield Tryz.prog 137 1=some (1,4):=by kernel_rfl
theorem Qy:tok Tryz.prog 151=true:=by kernel_rfl
theorem Qx:tint Tryz.prog 151=some .u64:=by kernel_rfl
theorem mixed:Tryz.prog.follows .mixedOrders=true:=by kernel_rfl
theorem To:ef Tryz.prog 7:=⟨_,Tryz.func7,by kernel_rfl,rfl⟩
theorem Tq:ef Tryz.prog 8:=⟨_,Tryz.func8,by kernel_rfl,rfl⟩
theorem nK:ef Tryz.prog 9:=⟨_,Tryz.func9,by kernel_rfl,rfl⟩
theorem Oe:ef Tryz.prog 10:=⟨_,Tryz.func10,by kernel_rfl,rfl⟩
theorem Of:ef Tryz.prog 11:=⟨_,Tryz.func11,by kernel_rfl,rfl⟩
theorem Og:ef Tryz.prog 14:=⟨_,Tryz.func14,by kernel_rfl,rfl⟩
theorem Oh:ef Tryz.prog 15:=⟨_,Tryz.func15,by kernel_rfl,rfl⟩
theorem Jf:ef Tryz.prog 16:=⟨_,Tryz.func16,by kernel_rfl,rfl⟩
theorem FE:ef Tryz.prog 18:=⟨_,Tryz.func18,by kernel_rfl,rfl⟩
theorem Oi:ef Tryz.prog 19:=⟨_,Tryz.func19,by kernel_rfl,rfl⟩
theorem Jg:ef Tryz.prog 20:=⟨_,Tryz.func20,by kernel_rfl,rfl⟩
theorem Jh:ef Tryz.prog 21:=⟨_,Tryz.func21,by kernel_rfl,rfl⟩
theorem Ji:ef Tryz.prog 22:=⟨_,Tryz.func22,by kernel_rfl,rfl⟩
theorem Oj:ef Tryz.prog 23:=⟨_,Tryz.func23,by kernel_rfl,rfl⟩
theorem BU:ef Tryz.prog 24:=⟨_,Tryz.func24,by kernel_rfl,rfl⟩
theorem Ol:ef Tryz.prog 26:=⟨_,Tryz.func26,by kernel_rfl,rfl⟩
theorem gG:ef Tryz.prog 27:=⟨_,Tryz.func27,by kernel_rfl,rfl⟩
theorem xK:ef Tryz.prog 28:=⟨_,Tryz.func28,by kernel_rfl,rfl⟩
theorem Om:ef Tryz.prog 29:=⟨_,Tryz.func29,by kernel_rfl,rfl⟩
theorem s7:ef Tryz.prog 30:=⟨_,Tryz.func30,by kernel_rfl,rfl⟩
theorem On:ef Tryz.prog 31:=⟨_,Tryz.func31,by kernel_rfl,rfl⟩
theorem Oo:ef Tryz.prog 32:=⟨_,Tryz.func32,by kernel_rfl,rfl⟩
theorem Oq:ef Tryz.prog 33:=⟨_,Tryz.func33,by kernel_rfl,rfl⟩
theorem Ot:ef Tryz.prog 34:=⟨_,Tryz.func34,by kernel_rfl,rfl⟩
theorem Ou:ef Tryz.prog 35:=⟨_,Tryz.func35,by kernel_rfl,rfl⟩
theorem Jj:ef Tryz.prog 36:=⟨_,Tryz.func36,by kernel_rfl,rfl⟩
theorem Ov:ef Tryz.prog 37:=⟨_,Tryz.func37,by kernel_rfl,rfl⟩
theorem Ow:ef Tryz.prog 38:=⟨_,Tryz.func38,by kernel_rfl,rfl⟩
theorem Ox:ef Tryz.prog 39:=⟨_,Tryz.func39,by kernel_rfl,rfl⟩
theorem uW:ef Tryz.prog 40:=⟨_,Tryz.func40,by kernel_rfl,rfl⟩
theorem xL:ef Tryz.prog 41:=⟨_,Tryz.func41,by kernel_rfl,rfl⟩
theorem Oy:ef Tryz.prog 42:=⟨_,Tryz.func42,by kernel_rfl,rfl⟩
theorem Oz:ef Tryz.prog 43:=⟨_,Tryz.func43,by kernel_rfl,rfl⟩
theorem OA:ef Tryz.prog 45:=⟨_,Tryz.func45,by kernel_rfl,rfl⟩
theorem OB:ef Tryz.prog 46:=⟨_,Tryz.func46,by kernel_rfl,rfl⟩
theorem OC:ef Tryz.prog 47:=⟨_,Tryz.func47,by kernel_rfl,rfl⟩
theorem OD:ef Tryz.prog 48:=⟨_,Tryz.func48,by kernel_rfl,rfl⟩
theorem Jk:ef Tryz.prog 49:=⟨_,Tryz.func49,by kernel_rfl,rfl⟩
theorem OE:ef Tryz.prog 50:=⟨_,Tryz.func50,by kernel_rfl,rfl⟩
theorem OF:ef Tryz.prog 51:=⟨_,Tryz.func51,by kernel_rfl,rfl⟩
theorem Jl:ef Tryz.prog 52:=⟨_,Tryz.func52,by kernel_rfl,rfl⟩
theorem uX:ef Tryz.prog 53:=⟨_,Tryz.func53,by kernel_rfl,rfl⟩
theorem OG:ef Tryz.prog 54:=⟨_,Tryz.func54,by kernel_rfl,rfl⟩
theorem OH:ef Tryz.prog 55:=⟨_,Tryz.func55,by kernel_rfl,rfl⟩
theorem OI:ef Tryz.prog 56:=⟨_,Tryz.func56,by kernel_rfl,rfl⟩
theorem OJ:ef Tryz.prog 57:=⟨_,Tryz.func57,by kernel_rfl,rfl⟩
theorem OK:ef Tryz.prog 58:=⟨_,Tryz.func58,by kernel_rfl,rfl⟩
theorem OL:ef Tryz.prog 59:=⟨_,Tryz.func59,by kernel_rfl,rfl⟩
theorem OM:ef Tryz.prog 60:=⟨_,Tryz.func60,by kernel_rfl,rfl⟩
theorem Jm:ef Tryz.prog 61:=⟨_,Tryz.func61,by kernel_rfl,rfl⟩
theorem ON:ef Tryz.prog 62:=⟨_,Tryz.func62,by kernel_rfl,rfl⟩
theorem OO:ef Tryz.prog 63:=⟨_,Tryz.func63,by kernel_rfl,rfl⟩
theorem Jn:ef Tryz.prog 64:=⟨_,Tryz.func64,by kernel_rfl,rfl⟩
theorem OP:ef Tryz.prog 65:=⟨_,Tryz.func65,by kernel_rfl,rfl⟩
theorem FF:ef Tryz.prog 66:=⟨_,Tryz.func66,by kernel_rfl,rfl⟩
theorem OR:ef Tryz.prog 67:=⟨_,Tryz.func67,by kernel_rfl,rfl⟩
theorem OS:ef Tryz.prog 68:=⟨_,Tryz.func68,by kernel_rfl,rfl⟩
theorem OT:ef Tryz.prog 69:=⟨_,Tryz.func69,by kernel_rfl,rfl⟩
theorem OU:ef Tryz.prog 70:=⟨_,Tryz.func70,by kernel_rfl,rfl⟩
theorem xM:ef Tryz.prog 71:=⟨_,Tryz.func71,by kernel_rfl,rfl⟩
theorem OV:ef Tryz.prog 72:=⟨_,Tryz.func72,by kernel_rfl,rfl⟩
theorem OW:ef Tryz.prog 73:=⟨_,Tryz.func73,by kernel_rfl,rfl⟩
theorem OX:ef Tryz.prog 74:=⟨_,Tryz.func74,by kernel_rfl,rfl⟩
theorem FG:ef Tryz.prog 75:=⟨_,Tryz.func75,by kernel_rfl,rfl⟩
theorem Jo:ef Tryz.prog 76:=⟨_,Tryz.func76,by kernel_rfl,rfl⟩
theorem OY:ef Tryz.prog 77:=⟨_,Tryz.func77,by kernel_rfl,rfl⟩
theorem FH:ef Tryz.prog 78:=⟨_,Tryz.func78,by kernel_rfl,rfl⟩
theorem Jp:ef Tryz.prog 79:=⟨_,Tryz.func79,by kernel_rfl,rfl⟩
theorem OZ:ef Tryz.prog 80:=⟨_,Tryz.func80,by kernel_rfl,rfl⟩
theorem Jq:ef Tryz.prog 81:=⟨_,Tryz.func81,by kernel_rfl,rfl⟩
theorem O0:ef Tryz.prog 82:=⟨_,Tryz.func82,by kernel_rfl,rfl⟩
theorem O1:ef Tryz.prog 83:=⟨_,Tryz.func83,by kernel_rfl,rfl⟩
theorem O2:ef Tryz.prog 84:=⟨_,Tryz.func84,by kernel_rfl,rfl⟩
theorem O3:ef Tryz.prog 85:=⟨_,Tryz.func85,by kernel_rfl,rfl⟩
theorem Jr:ef Tryz.prog 86:=⟨_,Tryz.func86,by kernel_rfl,rfl⟩
theorem O4:ef Tryz.prog 87:=⟨_,Tryz.func87,by kernel_rfl,rfl⟩
theorem O5:ef Tryz.prog 88:=⟨_,Tryz.func88,by kernel_rfl,rfl⟩
theorem O6:ef Tryz.prog 89:=⟨_,Tryz.func89,by kernel_rfl,rfl⟩
theorem O7:ef Tryz.prog 90:=⟨_,Tryz.func90,by kernel_rfl,rfl⟩
theorem Js:ef Tryz.prog 91:=⟨_,Tryz.func91,by kernel_rfl,rfl⟩
theorem O8:ef Tryz.prog 92:=⟨_,Tryz.func92,by kernel_rfl,rfl⟩
theorem O9:ef Tryz.prog 93:=⟨_,Tryz.func93,by kernel_rfl,rfl⟩
theorem Pa:ef Tryz.prog 94:=⟨_,Tryz.func94,by kernel_rfl,rfl⟩
theorem Pb:ef Tryz.prog 95:=⟨_,Tryz.func95,by kernel_rfl,rfl⟩
theorem Pc:ef Tryz.prog 96:=⟨_,Tryz.func96,by kernel_rfl,rfl⟩
theorem s8:ef Tryz.prog 97:=⟨_,Tryz.func97,by kernel_rfl,rfl⟩
theorem FB:ef Tryz.prog 100:=⟨_,Tryz.func100,by kernel_rfl,rfl⟩
theorem Ly:ef Tryz.prog 101:=⟨_,Tryz.func101,by kernel_rfl,rfl⟩
theorem wc:ef Tryz.prog 102:=⟨_,Tryz.func102,by kernel_rfl,rfl⟩
theorem Lz:ef Tryz.prog 103:=⟨_,Tryz.func103,by kernel_rfl,rfl⟩
theorem LA:ef Tryz.prog 104:=⟨_,Tryz.func104,by kernel_rfl,rfl⟩
theorem AH:ef Tryz.prog 105:=⟨_,Tryz.func105,by kernel_rfl,rfl⟩
theorem FC:ef Tryz.prog 106:=⟨_,Tryz.func106,by kernel_rfl,rfl⟩
theorem FD:ef Tryz.prog 109:=⟨_,Tryz.func109,by kernel_rfl,rfl⟩
end Go.Proofs.YtmollikhdbaikaaGreat
