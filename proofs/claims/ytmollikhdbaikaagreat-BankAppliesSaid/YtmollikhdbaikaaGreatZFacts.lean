import Derived.Test.YtmollikhdbaikaaGreatProg
import Derived.Test.YtmollikhdbaikaaGreatZLb
import Derived.Test.YtmollikhdbaikaaGreatZLc
namespace Go.Proofs.YtmollikhdbaikaaGreat
open Go.L
theorem bb:tsize Tryz.prog 3=1:=by kernel_rfl
theorem bN:tagg Tryz.prog 3=false:=by kernel_rfl
theorem aE:tok Tryz.prog 3=true:=by kernel_rfl
theorem WT:tint Tryz.prog 3=some .i64:=by kernel_rfl
theorem Uc:tzero Tryz.prog 3=some (.int .i64 0):=by kernel_rfl
theorem rj:gz Tryz.prog 3=true:=by kernel_rfl
theorem lP:tsize Tryz.prog 4=1:=by kernel_rfl
theorem uN:tagg Tryz.prog 4=false:=by kernel_rfl
theorem jL:tok Tryz.prog 4=true:=by kernel_rfl
theorem RH:vK Tryz.prog 4=true:=by kernel_rfl
theorem HD:gz Tryz.prog 4=true:=by kernel_rfl
theorem WW:tsize Tryz.prog 5=1:=by kernel_rfl
theorem Vg:tint Tryz.prog 5=some .u8:=by kernel_rfl
theorem WU:gz Tryz.prog 5=true:=by kernel_rfl
theorem xr:tsize Tryz.prog 9=1:=by kernel_rfl
theorem D3:tagg Tryz.prog 9=false:=by kernel_rfl
theorem po:tok Tryz.prog 9=true:=by kernel_rfl
theorem II:D5 Tryz.prog 9=true:=by kernel_rfl
theorem WV:gz Tryz.prog 9=true:=by kernel_rfl
theorem jz:tsize Tryz.prog 22=1:=by kernel_rfl
theorem mI:tagg Tryz.prog 22=false:=by kernel_rfl
theorem eT:tok Tryz.prog 22=true:=by kernel_rfl
theorem cJ:telem Tryz.prog 22=some 3:=by kernel_rfl
theorem fR:telem Tryz.prog 25=some 63:=by kernel_rfl
theorem dq:tsize Tryz.prog 28=1:=by kernel_rfl
theorem e8:tagg Tryz.prog 28=false:=by kernel_rfl
theorem bZ:tok Tryz.prog 28=true:=by kernel_rfl
theorem dE:telem Tryz.prog 28=some 49:=by kernel_rfl
theorem bf:tsize Tryz.prog 30=1:=by kernel_rfl
theorem bW:tagg Tryz.prog 30=true:=by kernel_rfl
theorem bd:tok Tryz.prog 30=true:=by kernel_rfl
theorem dH:tzero Tryz.prog 30=some (.agg [.nil]):=by kernel_rfl
theorem iB:tbuild Tryz.prog 30=true:=by kernel_rfl
theorem bX:tfield Tryz.prog 30 0=some (0,28):=by kernel_rfl
theorem nk:telem Tryz.prog 31=some 84:=by kernel_rfl
theorem zG:tsize Tryz.prog 32=1:=by kernel_rfl
theorem zB:tok Tryz.prog 32=true:=by kernel_rfl
theorem Hc:telem Tryz.prog 40=some 43:=by kernel_rfl
theorem gA:tsize Tryz.prog 43=2:=by kernel_rfl
theorem wZ:tagg Tryz.prog 43=true:=by kernel_rfl
theorem gM:tok Tryz.prog 43=true:=by kernel_rfl
theorem D7:tzero Tryz.prog 43=some (.agg [.int .i64 0,.int .i64 0]):=by kernel_rfl
theorem QY:gz Tryz.prog 43=true:=by kernel_rfl
theorem D6:tbuild Tryz.prog 43=true:=by kernel_rfl
theorem jK:tfield Tryz.prog 43 0=some (0,3):=by kernel_rfl
theorem fa:tfield Tryz.prog 43 1=some (1,3):=by kernel_rfl
theorem fE:tsize Tryz.prog 45=1:=by kernel_rfl
theorem ij:tagg Tryz.prog 45=false:=by kernel_rfl
theorem c7:tok Tryz.prog 45=true:=by kernel_rfl
theorem fw:telem Tryz.prog 45=some 54:=by kernel_rfl
theorem gN:tsize Tryz.prog 46=1:=by kernel_rfl
theorem lM:tagg Tryz.prog 46=false:=by kernel_rfl
theorem dZ:tok Tryz.prog 46=true:=by kernel_rfl
theorem jy:telem Tryz.prog 46=some 4:=by kernel_rfl
theorem gZ:tsize Tryz.prog 47=1:=by kernel_rfl
theorem kx:tagg Tryz.prog 47=false:=by kernel_rfl
theorem dS:tok Tryz.prog 47=true:=by kernel_rfl
theorem iZ:telem Tryz.prog 47=some 88:=by kernel_rfl
theorem cz:tsize Tryz.prog 49=5:=by kernel_rfl
theorem il:tagg Tryz.prog 49=true:=by kernel_rfl
theorem cT:tok Tryz.prog 49=true:=by kernel_rfl
theorem qH:tzero Tryz.prog 49=some (.agg [.int .i64 0,.nil,.nil,.nil,.bool false]):=by kernel_rfl
theorem p9:gz Tryz.prog 49=true:=by kernel_rfl
theorem Q0:tbuild Tryz.prog 49=true:=by kernel_rfl
theorem fO:tfield Tryz.prog 49 0=some (0,3):=by kernel_rfl
theorem cZ:tfield Tryz.prog 49 1=some (1,45):=by kernel_rfl
theorem dJ:tfield Tryz.prog 49 2=some (2,46):=by kernel_rfl
theorem dK:tfield Tryz.prog 49 3=some (3,47):=by kernel_rfl
theorem ja:tfield Tryz.prog 49 4=some (4,4):=by kernel_rfl
theorem fF:tsize Tryz.prog 52=1:=by kernel_rfl
theorem iW:tagg Tryz.prog 52=false:=by kernel_rfl
theorem db:tok Tryz.prog 52=true:=by kernel_rfl
theorem gy:telem Tryz.prog 52=some 86:=by kernel_rfl
theorem cd:tsize Tryz.prog 54=5:=by kernel_rfl
theorem eZ:tagg Tryz.prog 54=true:=by kernel_rfl
theorem cv:tok Tryz.prog 54=true:=by kernel_rfl
theorem xf:tzero Tryz.prog 54=some (.agg [.int .i64 0,.int .i64 0,.str (ByteArray.mk #[]),.nil,.nil]):=by kernel_rfl
theorem zE:gz Tryz.prog 54=true:=by kernel_rfl
theorem Q1:tbuild Tryz.prog 54=true:=by kernel_rfl
theorem fb:tfield Tryz.prog 54 0=some (0,3):=by kernel_rfl
theorem fP:tfield Tryz.prog 54 1=some (1,3):=by kernel_rfl
theorem gY:tfield Tryz.prog 54 2=some (2,9):=by kernel_rfl
theorem c8:tfield Tryz.prog 54 3=some (3,52):=by kernel_rfl
theorem fx:tfield Tryz.prog 54 4=some (4,22):=by kernel_rfl
theorem b7:tsize Tryz.prog 61=3:=by kernel_rfl
theorem gp:tagg Tryz.prog 61=true:=by kernel_rfl
theorem cc:tok Tryz.prog 61=true:=by kernel_rfl
theorem uO:tzero Tryz.prog 61=some (.agg [.int .i64 0,.int .i64 0,.int .i64 0]):=by kernel_rfl
theorem MC:gz Tryz.prog 61=true:=by kernel_rfl
theorem Hg:tbuild Tryz.prog 61=true:=by kernel_rfl
theorem fc:tfield Tryz.prog 61 0=some (0,3):=by kernel_rfl
theorem ez:tfield Tryz.prog 61 1=some (1,3):=by kernel_rfl
theorem dL:tfield Tryz.prog 61 2=some (2,3):=by kernel_rfl
theorem dF:tsize Tryz.prog 63=12:=by kernel_rfl
theorem iX:tagg Tryz.prog 63=true:=by kernel_rfl
theorem eo:tok Tryz.prog 63=true:=by kernel_rfl
theorem xg:tzero Tryz.prog 63=some (.agg [.int .i64 0,.int .i64 0,.int .i64 0,.int .i64 0,.int .i64 0,.int .i64 0,.str (ByteArray.mk #[]),.nil,.nil,.int .i64 0,.int .i64 0,.int .i64 0]):=by kernel_rfl
theorem zF:gz Tryz.prog 63=true:=by kernel_rfl
theorem IM:tbuild Tryz.prog 63=true:=by kernel_rfl
theorem di:tfield Tryz.prog 63 0=some (0,61):=by kernel_rfl
theorem dM:tfield Tryz.prog 63 1=some (3,3):=by kernel_rfl
theorem fe:tfield Tryz.prog 63 2=some (4,54):=by kernel_rfl
theorem e5:tfield Tryz.prog 63 3=some (9,43):=by kernel_rfl
theorem lg:tfield Tryz.prog 63 4=some (11,3):=by kernel_rfl
theorem Q4:tzero Tryz.prog 68=some (.agg [.nil,.int .i64 0]):=by kernel_rfl
theorem Q2:tbuild Tryz.prog 68=true:=by kernel_rfl
theorem xb:tfield Tryz.prog 68 0=some (0,22):=by kernel_rfl
theorem xc:tfield Tryz.prog 68 1=some (1,3):=by kernel_rfl
theorem qa:tzero Tryz.prog 78=some (.k5):=by kernel_rfl
theorem zH:tsize Tryz.prog 82=2:=by kernel_rfl
theorem zC:tok Tryz.prog 82=true:=by kernel_rfl
theorem zK:tzero Tryz.prog 82=some (.agg [.int .i64 0,.int .i64 0]):=by kernel_rfl
theorem zI:tbuild Tryz.prog 82=true:=by kernel_rfl
theorem nm:tfield Tryz.prog 82 0=some (0,3):=by kernel_rfl
theorem np:tfield Tryz.prog 82 1=some (1,3):=by kernel_rfl
theorem oe:tsize Tryz.prog 84=3:=by kernel_rfl
theorem zL:tzero Tryz.prog 84=some (.agg [.int .i64 0,.int .i64 0,.int .i64 0]):=by kernel_rfl
theorem od:gz Tryz.prog 84=true:=by kernel_rfl
theorem zJ:tbuild Tryz.prog 84=true:=by kernel_rfl
theorem nr:tfield Tryz.prog 84 0=some (0,82):=by kernel_rfl
theorem nt:tfield Tryz.prog 84 1=some (2,32):=by kernel_rfl
theorem dN:tsize Tryz.prog 86=6:=by kernel_rfl
theorem iY:tagg Tryz.prog 86=true:=by kernel_rfl
theorem eu:tok Tryz.prog 86=true:=by kernel_rfl
theorem Hh:tzero Tryz.prog 86=some (.agg [.int .i64 0,.int .i64 0,.int .i64 0,.int .i64 0,.int .i64 0,.int .i64 0]):=by kernel_rfl
theorem BD:gz Tryz.prog 86=true:=by kernel_rfl
theorem Q3:tbuild Tryz.prog 86=true:=by kernel_rfl
theorem pf:tfield Tryz.prog 86 0=some (0,3):=by kernel_rfl
theorem nu:tfield Tryz.prog 86 1=some (1,3):=by kernel_rfl
theorem qF:tfield Tryz.prog 86 2=some (2,3):=by kernel_rfl
theorem qG:tfield Tryz.prog 86 3=some (3,3):=by kernel_rfl
theorem ky:tfield Tryz.prog 86 4=some (4,3):=by kernel_rfl
theorem nv:tfield Tryz.prog 86 5=some (5,3):=by kernel_rfl
theorem l0:tsize Tryz.prog 88=3:=by kernel_rfl
theorem IJ:tagg Tryz.prog 88=true:=by kernel_rfl
theorem rN:tok Tryz.prog 88=true:=by kernel_rfl
theorem IN:tzero Tryz.prog 88=some (.agg [.int .i64 0,.int .i64 0,.int .i64 0]):=by kernel_rfl
theorem BF:gz Tryz.prog 88=true:=by kernel_rfl
theorem MD:tbuild Tryz.prog 88=true:=by kernel_rfl
theorem pg:tfield Tryz.prog 88 0=some (0,3):=by kernel_rfl
theorem xd:tfield Tryz.prog 88 1=some (1,3):=by kernel_rfl
theorem BC:tfield Tryz.prog 88 2=some (2,3):=by kernel_rfl
theorem Kg:telem Tryz.prog 105=some 9:=by kernel_rfl
theorem nj:tagg Tryz.prog 111=false:=by kernel_rfl
theorem nw:tok Tryz.prog 111=true:=by kernel_rfl
theorem e6:telem Tryz.prog 111=some 61:=by kernel_rfl
theorem Kh:telem Tryz.prog 121=some 5:=by kernel_rfl
theorem ox:fS Tryz.prog 127=true:=by kernel_rfl
theorem ri:telem Tryz.prog 134=some 137:=by kernel_rfl
theorem rk:tsize Tryz.prog 137=2:=by kernel_rfl
theorem QV:tagg Tryz.prog 137=true:=by kernel_rfl
theorem vL:tok Tryz.prog 137=true:=by kernel_rfl
theorem Kk:tzero Tryz.prog 137=some (.agg [.int .i64 0,.bool false]):=by kernel_rfl
theorem Kj:gz Tryz.prog 137=true:=by kernel_rfl
theorem QZ:tbuild Tryz.prog 137=true:=by kernel_rfl
theorem sa:tfield Tryz.prog 137 0=some (0,3):=by kernel_rfl
theorem xa:tfield Tryz.prog 137 1=some (1,4):=by kernel_rfl
theorem QX:tok Tryz.prog 151=true:=by kernel_rfl
theorem QW:tint Tryz.prog 151=some .u64:=by kernel_rfl
theorem mixed:Tryz.prog.follows .mixedOrders=true:=by kernel_rfl
theorem TN:eh Tryz.prog 7:=⟨_,Tryz.func7,by kernel_rfl,rfl⟩
theorem Pr:eh Tryz.prog 8:=⟨_,Tryz.func8,by kernel_rfl,rfl⟩
theorem oc:eh Tryz.prog 9:=⟨_,Tryz.func9,by kernel_rfl,rfl⟩
theorem OP:eh Tryz.prog 10:=⟨_,Tryz.func10,by kernel_rfl,rfl⟩
theorem OR:eh Tryz.prog 11:=⟨_,Tryz.func11,by kernel_rfl,rfl⟩
theorem OS:eh Tryz.prog 12:=⟨_,Tryz.func12,by kernel_rfl,rfl⟩
theorem Jq:eh Tryz.prog 14:=⟨_,Tryz.func14,by kernel_rfl,rfl⟩
theorem OT:eh Tryz.prog 15:=⟨_,Tryz.func15,by kernel_rfl,rfl⟩
theorem Jr:eh Tryz.prog 16:=⟨_,Tryz.func16,by kernel_rfl,rfl⟩
theorem OU:eh Tryz.prog 18:=⟨_,Tryz.func18,by kernel_rfl,rfl⟩
theorem OV:eh Tryz.prog 23:=⟨_,Tryz.func23,by kernel_rfl,rfl⟩
theorem Js:eh Tryz.prog 24:=⟨_,Tryz.func24,by kernel_rfl,rfl⟩
theorem OW:eh Tryz.prog 25:=⟨_,Tryz.func25,by kernel_rfl,rfl⟩
theorem Jt:eh Tryz.prog 26:=⟨_,Tryz.func26,by kernel_rfl,rfl⟩
theorem gJ:eh Tryz.prog 27:=⟨_,Tryz.func27,by kernel_rfl,rfl⟩
theorem yb:eh Tryz.prog 28:=⟨_,Tryz.func28,by kernel_rfl,rfl⟩
theorem OX:eh Tryz.prog 29:=⟨_,Tryz.func29,by kernel_rfl,rfl⟩
theorem tg:eh Tryz.prog 30:=⟨_,Tryz.func30,by kernel_rfl,rfl⟩
theorem OY:eh Tryz.prog 31:=⟨_,Tryz.func31,by kernel_rfl,rfl⟩
theorem OZ:eh Tryz.prog 32:=⟨_,Tryz.func32,by kernel_rfl,rfl⟩
theorem qW:eh Tryz.prog 33:=⟨_,Tryz.func33,by kernel_rfl,rfl⟩
theorem O0:eh Tryz.prog 34:=⟨_,Tryz.func34,by kernel_rfl,rfl⟩
theorem Ju:eh Tryz.prog 35:=⟨_,Tryz.func35,by kernel_rfl,rfl⟩
theorem Jv:eh Tryz.prog 36:=⟨_,Tryz.func36,by kernel_rfl,rfl⟩
theorem O1:eh Tryz.prog 37:=⟨_,Tryz.func37,by kernel_rfl,rfl⟩
theorem O2:eh Tryz.prog 38:=⟨_,Tryz.func38,by kernel_rfl,rfl⟩
theorem O3:eh Tryz.prog 39:=⟨_,Tryz.func39,by kernel_rfl,rfl⟩
theorem yd:eh Tryz.prog 40:=⟨_,Tryz.func40,by kernel_rfl,rfl⟩
theorem B9:eh Tryz.prog 41:=⟨_,Tryz.func41,by kernel_rfl,rfl⟩
theorem O4:eh Tryz.prog 42:=⟨_,Tryz.func42,by kernel_rfl,rfl⟩
theorem O5:eh Tryz.prog 43:=⟨_,Tryz.func43,by kernel_rfl,rfl⟩
theorem u5:eh Tryz.prog 44:=⟨_,Tryz.func44,by kernel_rfl,rfl⟩
theorem O6:eh Tryz.prog 45:=⟨_,Tryz.func45,by kernel_rfl,rfl⟩
theorem O7:eh Tryz.prog 46:=⟨_,Tryz.func46,by kernel_rfl,rfl⟩
theorem O8:eh Tryz.prog 47:=⟨_,Tryz.func47,by kernel_rfl,rfl⟩
theorem O9:eh Tryz.prog 48:=⟨_,Tryz.func48,by kernel_rfl,rfl⟩
theorem Jw:eh Tryz.prog 49:=⟨_,Tryz.func49,by kernel_rfl,rfl⟩
theorem Pa:eh Tryz.prog 50:=⟨_,Tryz.func50,by kernel_rfl,rfl⟩
theorem Pb:eh Tryz.prog 51:=⟨_,Tryz.func51,by kernel_rfl,rfl⟩
theorem Jx:eh Tryz.prog 52:=⟨_,Tryz.func52,by kernel_rfl,rfl⟩
theorem u6:eh Tryz.prog 53:=⟨_,Tryz.func53,by kernel_rfl,rfl⟩
theorem Pc:eh Tryz.prog 54:=⟨_,Tryz.func54,by kernel_rfl,rfl⟩
theorem Pd:eh Tryz.prog 55:=⟨_,Tryz.func55,by kernel_rfl,rfl⟩
theorem Pe:eh Tryz.prog 56:=⟨_,Tryz.func56,by kernel_rfl,rfl⟩
theorem Jy:eh Tryz.prog 57:=⟨_,Tryz.func57,by kernel_rfl,rfl⟩
theorem Jz:eh Tryz.prog 58:=⟨_,Tryz.func58,by kernel_rfl,rfl⟩
theorem JA:eh Tryz.prog 59:=⟨_,Tryz.func59,by kernel_rfl,rfl⟩
theorem JB:eh Tryz.prog 60:=⟨_,Tryz.func60,by kernel_rfl,rfl⟩
theorem JC:eh Tryz.prog 61:=⟨_,Tryz.func61,by kernel_rfl,rfl⟩
theorem Pf:eh Tryz.prog 62:=⟨_,Tryz.func62,by kernel_rfl,rfl⟩
theorem Pg:eh Tryz.prog 63:=⟨_,Tryz.func63,by kernel_rfl,rfl⟩
theorem JD:eh Tryz.prog 64:=⟨_,Tryz.func64,by kernel_rfl,rfl⟩
theorem Ph:eh Tryz.prog 65:=⟨_,Tryz.func65,by kernel_rfl,rfl⟩
theorem FQ:eh Tryz.prog 66:=⟨_,Tryz.func66,by kernel_rfl,rfl⟩
theorem Pj:eh Tryz.prog 67:=⟨_,Tryz.func67,by kernel_rfl,rfl⟩
theorem Pk:eh Tryz.prog 68:=⟨_,Tryz.func68,by kernel_rfl,rfl⟩
theorem Pl:eh Tryz.prog 69:=⟨_,Tryz.func69,by kernel_rfl,rfl⟩
theorem Pm:eh Tryz.prog 70:=⟨_,Tryz.func70,by kernel_rfl,rfl⟩
theorem ye:eh Tryz.prog 71:=⟨_,Tryz.func71,by kernel_rfl,rfl⟩
theorem Pn:eh Tryz.prog 72:=⟨_,Tryz.func72,by kernel_rfl,rfl⟩
theorem Po:eh Tryz.prog 73:=⟨_,Tryz.func73,by kernel_rfl,rfl⟩
theorem Pp:eh Tryz.prog 74:=⟨_,Tryz.func74,by kernel_rfl,rfl⟩
theorem FR:eh Tryz.prog 75:=⟨_,Tryz.func75,by kernel_rfl,rfl⟩
theorem JE:eh Tryz.prog 76:=⟨_,Tryz.func76,by kernel_rfl,rfl⟩
theorem Pq:eh Tryz.prog 77:=⟨_,Tryz.func77,by kernel_rfl,rfl⟩
theorem FT:eh Tryz.prog 78:=⟨_,Tryz.func78,by kernel_rfl,rfl⟩
theorem JF:eh Tryz.prog 79:=⟨_,Tryz.func79,by kernel_rfl,rfl⟩
theorem Ps:eh Tryz.prog 80:=⟨_,Tryz.func80,by kernel_rfl,rfl⟩
theorem Ca:eh Tryz.prog 81:=⟨_,Tryz.func81,by kernel_rfl,rfl⟩
theorem Pt:eh Tryz.prog 82:=⟨_,Tryz.func82,by kernel_rfl,rfl⟩
theorem Pu:eh Tryz.prog 83:=⟨_,Tryz.func83,by kernel_rfl,rfl⟩
theorem Pv:eh Tryz.prog 84:=⟨_,Tryz.func84,by kernel_rfl,rfl⟩
theorem Pw:eh Tryz.prog 85:=⟨_,Tryz.func85,by kernel_rfl,rfl⟩
theorem JG:eh Tryz.prog 86:=⟨_,Tryz.func86,by kernel_rfl,rfl⟩
theorem Px:eh Tryz.prog 87:=⟨_,Tryz.func87,by kernel_rfl,rfl⟩
theorem Py:eh Tryz.prog 88:=⟨_,Tryz.func88,by kernel_rfl,rfl⟩
theorem Pz:eh Tryz.prog 89:=⟨_,Tryz.func89,by kernel_rfl,rfl⟩
theorem PA:eh Tryz.prog 90:=⟨_,Tryz.func90,by kernel_rfl,rfl⟩
theorem JH:eh Tryz.prog 91:=⟨_,Tryz.func91,by kernel_rfl,rfl⟩
theorem PB:eh Tryz.prog 92:=⟨_,Tryz.func92,by kernel_rfl,rfl⟩
theorem PC:eh Tryz.prog 93:=⟨_,Tryz.func93,by kernel_rfl,rfl⟩
theorem PD:eh Tryz.prog 94:=⟨_,Tryz.func94,by kernel_rfl,rfl⟩
theorem PE:eh Tryz.prog 95:=⟨_,Tryz.func95,by kernel_rfl,rfl⟩
theorem PF:eh Tryz.prog 96:=⟨_,Tryz.func96,by kernel_rfl,rfl⟩
theorem th:eh Tryz.prog 97:=⟨_,Tryz.func97,by kernel_rfl,rfl⟩
theorem FN:eh Tryz.prog 100:=⟨_,Tryz.func100,by kernel_rfl,rfl⟩
theorem L1:eh Tryz.prog 101:=⟨_,Tryz.func101,by kernel_rfl,rfl⟩
theorem wy:eh Tryz.prog 102:=⟨_,Tryz.func102,by kernel_rfl,rfl⟩
theorem L2:eh Tryz.prog 103:=⟨_,Tryz.func103,by kernel_rfl,rfl⟩
theorem L3:eh Tryz.prog 104:=⟨_,Tryz.func104,by kernel_rfl,rfl⟩
theorem AZ:eh Tryz.prog 105:=⟨_,Tryz.func105,by kernel_rfl,rfl⟩
theorem FO:eh Tryz.prog 106:=⟨_,Tryz.func106,by kernel_rfl,rfl⟩
theorem FP:eh Tryz.prog 109:=⟨_,Tryz.func109,by kernel_rfl,rfl⟩
end Go.Proofs.YtmollikhdbaikaaGreat
