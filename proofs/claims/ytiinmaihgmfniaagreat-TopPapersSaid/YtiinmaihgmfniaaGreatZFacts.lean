import Derived.Test.YtiinmaihgmfniaaGreatProg
import Derived.Test.YtiinmaihgmfniaaGreatZLb
import Derived.Test.YtiinmaihgmfniaaGreatZLc
namespace Go.Proofs.YtiinmaihgmfniaaGreat
open Go.L
theorem aL:tsize Tryz.prog 3=1:=by kernel_rfl
theorem br:tagg Tryz.prog 3=false:=by kernel_rfl
theorem aw:tok Tryz.prog 3=true:=by kernel_rfl
theorem ti3:tint Tryz.prog 3=some .i64:=by kernel_rfl
theorem Oq:tzero Tryz.prog 3=some (.int .i64 0):=by kernel_rfl
theorem nB:fP Tryz.prog 3=true:=by kernel_rfl
theorem oU:tsize Tryz.prog 4=1:=by kernel_rfl
theorem yA:tagg Tryz.prog 4=false:=by kernel_rfl
theorem jG:tok Tryz.prog 4=true:=by kernel_rfl
theorem tb4:EL Tryz.prog 4=true:=by kernel_rfl
theorem tz4:tzero Tryz.prog 4=some (.bool false):=by kernel_rfl
theorem tr4:fP Tryz.prog 4=true:=by kernel_rfl
theorem ts5:tsize Tryz.prog 5=1:=by kernel_rfl
theorem ti5:tint Tryz.prog 5=some .u8:=by kernel_rfl
theorem tr5:fP Tryz.prog 5=true:=by kernel_rfl
theorem NS:tsize Tryz.prog 9=1:=by kernel_rfl
theorem Vu:tagg Tryz.prog 9=false:=by kernel_rfl
theorem E6:tok Tryz.prog 9=true:=by kernel_rfl
theorem Zo:JY Tryz.prog 9=true:=by kernel_rfl
theorem tr9:fP Tryz.prog 9=true:=by kernel_rfl
theorem cC:tsize Tryz.prog 22=1:=by kernel_rfl
theorem dr:tagg Tryz.prog 22=false:=by kernel_rfl
theorem bj:tok Tryz.prog 22=true:=by kernel_rfl
theorem bd:telem Tryz.prog 22=some 3:=by kernel_rfl
theorem P2:tzero Tryz.prog 22=some (.nil):=by kernel_rfl
theorem UN:fP Tryz.prog 22=true:=by kernel_rfl
theorem du:tsize Tryz.prog 40=3:=by kernel_rfl
theorem kG:tagg Tryz.prog 40=true:=by kernel_rfl
theorem dw:tok Tryz.prog 40=true:=by kernel_rfl
theorem EU:tzero Tryz.prog 40=some (.agg [.int .i64 0,.int .i64 0,.int .i64 0]):=by kernel_rfl
theorem adC:fP Tryz.prog 40=true:=by kernel_rfl
theorem UO:tbuild Tryz.prog 40=true:=by kernel_rfl
theorem mz:tfield Tryz.prog 40 0=some (0,3):=by kernel_rfl
theorem ia:tfield Tryz.prog 40 1=some (1,3):=by kernel_rfl
theorem gH:tfield Tryz.prog 40 2=some (2,3):=by kernel_rfl
theorem sr:telem Tryz.prog 48=some 143:=by kernel_rfl
theorem Ha:tsize Tryz.prog 49=1:=by kernel_rfl
theorem G9:tok Tryz.prog 49=true:=by kernel_rfl
theorem adD:tsize Tryz.prog 65=1:=by kernel_rfl
theorem adB:tagg Tryz.prog 65=false:=by kernel_rfl
theorem Zx:tok Tryz.prog 65=true:=by kernel_rfl
theorem adI:tzero Tryz.prog 65=some (.nilf):=by kernel_rfl
theorem my:telem Tryz.prog 74=some 110:=by kernel_rfl
theorem xC:tsize Tryz.prog 76=1:=by kernel_rfl
theorem A8:tagg Tryz.prog 76=false:=by kernel_rfl
theorem nu:tok Tryz.prog 76=true:=by kernel_rfl
theorem ss:telem Tryz.prog 76=some 179:=by kernel_rfl
theorem lE:tsize Tryz.prog 78=1:=by kernel_rfl
theorem sm:tagg Tryz.prog 78=true:=by kernel_rfl
theorem lD:tok Tryz.prog 78=true:=by kernel_rfl
theorem Hb:tzero Tryz.prog 78=some (.agg [.nil]):=by kernel_rfl
theorem adF:tbuild Tryz.prog 78=true:=by kernel_rfl
theorem mA:tfield Tryz.prog 78 0=some (0,76):=by kernel_rfl
theorem tz:tsize Tryz.prog 79=1:=by kernel_rfl
theorem yB:tagg Tryz.prog 79=false:=by kernel_rfl
theorem lr:tok Tryz.prog 79=true:=by kernel_rfl
theorem fA:telem Tryz.prog 79=some 108:=by kernel_rfl
theorem adE:tsize Tryz.prog 82=1:=by kernel_rfl
theorem UL:tagg Tryz.prog 82=false:=by kernel_rfl
theorem PX:tok Tryz.prog 82=true:=by kernel_rfl
theorem adJ:tzero Tryz.prog 82=some (.nilf):=by kernel_rfl
theorem jT:tsize Tryz.prog 83=1:=by kernel_rfl
theorem oS:tagg Tryz.prog 83=false:=by kernel_rfl
theorem fk:tok Tryz.prog 83=true:=by kernel_rfl
theorem jx:telem Tryz.prog 83=some 188:=by kernel_rfl
theorem EP:tsize Tryz.prog 84=1:=by kernel_rfl
theorem PW:tagg Tryz.prog 84=false:=by kernel_rfl
theorem uH:tok Tryz.prog 84=true:=by kernel_rfl
theorem G7:telem Tryz.prog 84=some 99:=by kernel_rfl
theorem iT:tsize Tryz.prog 86=9:=by kernel_rfl
theorem nt:tagg Tryz.prog 86=true:=by kernel_rfl
theorem iS:tok Tryz.prog 86=true:=by kernel_rfl
theorem P3:tzero Tryz.prog 86=some (.agg [.int .i64 0,.int .i64 0,.int .i64 0,.int .i64 0,.nil,.nil,.nil,.nil,.int .i64 0]):=by kernel_rfl
theorem adG:tbuild Tryz.prog 86=true:=by kernel_rfl
theorem tu:tfield Tryz.prog 86 0=some (0,3):=by kernel_rfl
theorem xv:tfield Tryz.prog 86 1=some (1,3):=by kernel_rfl
theorem Bb:tfield Tryz.prog 86 2=some (2,3):=by kernel_rfl
theorem xw:tfield Tryz.prog 86 3=some (3,3):=by kernel_rfl
theorem lp:tfield Tryz.prog 86 4=some (4,83):=by kernel_rfl
theorem lq:tfield Tryz.prog 86 5=some (5,83):=by kernel_rfl
theorem mB:tfield Tryz.prog 86 6=some (6,22):=by kernel_rfl
theorem tv:tfield Tryz.prog 86 7=some (7,84):=by kernel_rfl
theorem xx:tfield Tryz.prog 86 8=some (8,3):=by kernel_rfl
theorem kK:tsize Tryz.prog 87=1:=by kernel_rfl
theorem nS:tagg Tryz.prog 87=false:=by kernel_rfl
theorem fm:tok Tryz.prog 87=true:=by kernel_rfl
theorem hY:telem Tryz.prog 87=some 230:=by kernel_rfl
theorem adK:tzero Tryz.prog 87=some (.nil):=by kernel_rfl
theorem fa:tsize Tryz.prog 89=2:=by kernel_rfl
theorem gG:tagg Tryz.prog 89=true:=by kernel_rfl
theorem e9:tok Tryz.prog 89=true:=by kernel_rfl
theorem tA:tzero Tryz.prog 89=some (.agg [.nil,.nil]):=by kernel_rfl
theorem ET:tbuild Tryz.prog 89=true:=by kernel_rfl
theorem fB:tfield Tryz.prog 89 0=some (0,22):=by kernel_rfl
theorem fC:tfield Tryz.prog 89 1=some (1,87):=by kernel_rfl
theorem JX:tsize Tryz.prog 92=1:=by kernel_rfl
theorem sn:tagg Tryz.prog 92=false:=by kernel_rfl
theorem nv:tok Tryz.prog 92=true:=by kernel_rfl
theorem oT:telem Tryz.prog 92=some 239:=by kernel_rfl
theorem adL:tzero Tryz.prog 92=some (.nil):=by kernel_rfl
theorem uJ:tsize Tryz.prog 94=4:=by kernel_rfl
theorem NP:tagg Tryz.prog 94=true:=by kernel_rfl
theorem yC:tok Tryz.prog 94=true:=by kernel_rfl
theorem P4:tzero Tryz.prog 94=some (.agg [.bool false,.nil,.int .i64 0,.nil]):=by kernel_rfl
theorem ZA:fP Tryz.prog 94=true:=by kernel_rfl
theorem adH:tbuild Tryz.prog 94=true:=by kernel_rfl
theorem pB:tfield Tryz.prog 94 0=some (0,4):=by kernel_rfl
theorem tw:tfield Tryz.prog 94 1=some (1,22):=by kernel_rfl
theorem tx:tfield Tryz.prog 94 2=some (2,3):=by kernel_rfl
theorem NQ:tfield Tryz.prog 94 3=some (3,92):=by kernel_rfl
theorem P1:tsize Tryz.prog 97=1:=by kernel_rfl
theorem Zr:tagg Tryz.prog 97=false:=by kernel_rfl
theorem JV:tok Tryz.prog 97=true:=by kernel_rfl
theorem uG:telem Tryz.prog 97=some 105:=by kernel_rfl
theorem ER:tsize Tryz.prog 99=2:=by kernel_rfl
theorem Zs:tagg Tryz.prog 99=true:=by kernel_rfl
theorem PY:tok Tryz.prog 99=true:=by kernel_rfl
theorem NV:tzero Tryz.prog 99=some (.agg [.int .i64 0,.nil]):=by kernel_rfl
theorem P0:fP Tryz.prog 99=true:=by kernel_rfl
theorem UP:tbuild Tryz.prog 99=true:=by kernel_rfl
theorem G8:tfield Tryz.prog 99 1=some (1,97):=by kernel_rfl
theorem eM:tsize Tryz.prog 105=2:=by kernel_rfl
theorem sj:tagg Tryz.prog 105=true:=by kernel_rfl
theorem fj:tok Tryz.prog 105=true:=by kernel_rfl
theorem z7:tzero Tryz.prog 105=some (.agg [.int .i64 0,.int .i64 0]):=by kernel_rfl
theorem Is:fP Tryz.prog 105=true:=by kernel_rfl
theorem z6:tbuild Tryz.prog 105=true:=by kernel_rfl
theorem jE:tfield Tryz.prog 105 0=some (0,3):=by kernel_rfl
theorem fq:tfield Tryz.prog 105 1=some (1,3):=by kernel_rfl
theorem dG:tsize Tryz.prog 106=1:=by kernel_rfl
theorem fh:tagg Tryz.prog 106=false:=by kernel_rfl
theorem b8:tok Tryz.prog 106=true:=by kernel_rfl
theorem ey:telem Tryz.prog 106=some 185:=by kernel_rfl
theorem bk:tsize Tryz.prog 108=5:=by kernel_rfl
theorem dn:tagg Tryz.prog 108=true:=by kernel_rfl
theorem bm:tok Tryz.prog 108=true:=by kernel_rfl
theorem lX:tzero Tryz.prog 108=some (.agg [.int .i64 0,.int .i64 0,.str (ByteArray.mk #[]),.nil,.nil]):=by kernel_rfl
theorem zX:fP Tryz.prog 108=true:=by kernel_rfl
theorem It:tbuild Tryz.prog 108=true:=by kernel_rfl
theorem ei:tfield Tryz.prog 108 0=some (0,3):=by kernel_rfl
theorem gR:tfield Tryz.prog 108 1=some (1,3):=by kernel_rfl
theorem lR:tfield Tryz.prog 108 2=some (2,9):=by kernel_rfl
theorem dP:tfield Tryz.prog 108 3=some (3,106):=by kernel_rfl
theorem iv:tfield Tryz.prog 108 4=some (4,22):=by kernel_rfl
theorem eT:tsize Tryz.prog 110=12:=by kernel_rfl
theorem lO:tagg Tryz.prog 110=true:=by kernel_rfl
theorem fL:tok Tryz.prog 110=true:=by kernel_rfl
theorem xF:tzero Tryz.prog 110=some (.agg [.int .i64 0,.int .i64 0,.int .i64 0,.int .i64 0,.int .i64 0,.int .i64 0,.str (ByteArray.mk #[]),.nil,.nil,.int .i64 0,.int .i64 0,.int .i64 0]):=by kernel_rfl
theorem zY:fP Tryz.prog 110=true:=by kernel_rfl
theorem NT:tbuild Tryz.prog 110=true:=by kernel_rfl
theorem ej:tfield Tryz.prog 110 0=some (0,40):=by kernel_rfl
theorem fv:tfield Tryz.prog 110 1=some (3,3):=by kernel_rfl
theorem fw:tfield Tryz.prog 110 2=some (4,108):=by kernel_rfl
theorem gm:tfield Tryz.prog 110 3=some (9,105):=by kernel_rfl
theorem pZ:tfield Tryz.prog 110 4=some (11,3):=by kernel_rfl
theorem xu:telem Tryz.prog 114=some 94:=by kernel_rfl
theorem lQ:telem Tryz.prog 117=some 22:=by kernel_rfl
theorem iq:tsize Tryz.prog 120=3:=by kernel_rfl
theorem lP:tagg Tryz.prog 120=true:=by kernel_rfl
theorem im:tok Tryz.prog 120=true:=by kernel_rfl
theorem uc:tzero Tryz.prog 120=some (.agg [.int .i64 0,.int .i64 0,.nil]):=by kernel_rfl
theorem Iu:tbuild Tryz.prog 120=true:=by kernel_rfl
theorem uX:tfield Tryz.prog 120 0=some (0,3):=by kernel_rfl
theorem uY:tfield Tryz.prog 120 1=some (1,3):=by kernel_rfl
theorem iw:tfield Tryz.prog 120 2=some (2,106):=by kernel_rfl
theorem RN:tzero Tryz.prog 129=some (.agg [.nil,.int .i64 0]):=by kernel_rfl
theorem RL:tbuild Tryz.prog 129=true:=by kernel_rfl
theorem uZ:tfield Tryz.prog 129 0=some (0,22):=by kernel_rfl
theorem u0:tfield Tryz.prog 129 1=some (1,3):=by kernel_rfl
theorem xz:tsize Tryz.prog 141=2:=by kernel_rfl
theorem xy:tok Tryz.prog 141=true:=by kernel_rfl
theorem xG:tzero Tryz.prog 141=some (.agg [.int .i64 0,.int .i64 0]):=by kernel_rfl
theorem xD:tbuild Tryz.prog 141=true:=by kernel_rfl
theorem nU:tfield Tryz.prog 141 0=some (0,3):=by kernel_rfl
theorem nV:tfield Tryz.prog 141 1=some (1,3):=by kernel_rfl
theorem lW:tsize Tryz.prog 143=3:=by kernel_rfl
theorem xH:tzero Tryz.prog 143=some (.agg [.int .i64 0,.int .i64 0,.int .i64 0]):=by kernel_rfl
theorem lV:fP Tryz.prog 143=true:=by kernel_rfl
theorem xE:tbuild Tryz.prog 143=true:=by kernel_rfl
theorem nW:tfield Tryz.prog 143 0=some (0,141):=by kernel_rfl
theorem nY:tfield Tryz.prog 143 1=some (2,49):=by kernel_rfl
theorem pD:tsize Tryz.prog 151=1:=by kernel_rfl
theorem ow:tagg Tryz.prog 151=false:=by kernel_rfl
theorem gI:tok Tryz.prog 151=true:=by kernel_rfl
theorem ll:telem Tryz.prog 151=some 4:=by kernel_rfl
theorem ZE:tzero Tryz.prog 151=some (.nil):=by kernel_rfl
theorem Zp:tagg Tryz.prog 167=false:=by kernel_rfl
theorem Zv:tok Tryz.prog 167=true:=by kernel_rfl
theorem xI:tzero Tryz.prog 171=some (.nilf):=by kernel_rfl
theorem sy:tsize Tryz.prog 177=1:=by kernel_rfl
theorem xr:tagg Tryz.prog 177=false:=by kernel_rfl
theorem kq:tok Tryz.prog 177=true:=by kernel_rfl
theorem sq:telem Tryz.prog 177=some 182:=by kernel_rfl
theorem jm:tsize Tryz.prog 179=5:=by kernel_rfl
theorem xt:tagg Tryz.prog 179=true:=by kernel_rfl
theorem jS:tok Tryz.prog 179=true:=by kernel_rfl
theorem Iw:tzero Tryz.prog 179=some (.agg [.int .i64 0,.nil,.nil,.nil,.bool false]):=by kernel_rfl
theorem Zz:fP Tryz.prog 179=true:=by kernel_rfl
theorem ZB:tbuild Tryz.prog 179=true:=by kernel_rfl
theorem nZ:tfield Tryz.prog 179 0=some (0,3):=by kernel_rfl
theorem ix:tfield Tryz.prog 179 1=some (1,79):=by kernel_rfl
theorem kH:tfield Tryz.prog 179 2=some (2,151):=by kernel_rfl
theorem lS:tfield Tryz.prog 179 3=some (3,177):=by kernel_rfl
theorem p4:tfield Tryz.prog 179 4=some (4,4):=by kernel_rfl
theorem xB:tsize Tryz.prog 182=3:=by kernel_rfl
theorem RD:tagg Tryz.prog 182=true:=by kernel_rfl
theorem EN:tok Tryz.prog 182=true:=by kernel_rfl
theorem RO:tzero Tryz.prog 182=some (.agg [.int .i64 0,.int .i64 0,.int .i64 0]):=by kernel_rfl
theorem RI:fP Tryz.prog 182=true:=by kernel_rfl
theorem ZC:tbuild Tryz.prog 182=true:=by kernel_rfl
theorem A9:tfield Tryz.prog 182 0=some (0,3):=by kernel_rfl
theorem Iq:tfield Tryz.prog 182 1=some (1,3):=by kernel_rfl
theorem Ir:tfield Tryz.prog 182 2=some (2,3):=by kernel_rfl
theorem cm:tsize Tryz.prog 185=6:=by kernel_rfl
theorem fi:tagg Tryz.prog 185=true:=by kernel_rfl
theorem cR:tok Tryz.prog 185=true:=by kernel_rfl
theorem ud:tzero Tryz.prog 185=some (.agg [.int .i64 0,.int .i64 0,.int .i64 0,.int .i64 0,.int .i64 0,.int .i64 0]):=by kernel_rfl
theorem tZ:fP Tryz.prog 185=true:=by kernel_rfl
theorem RM:tbuild Tryz.prog 185=true:=by kernel_rfl
theorem su:tfield Tryz.prog 185 0=some (0,3):=by kernel_rfl
theorem kI:tfield Tryz.prog 185 1=some (1,3):=by kernel_rfl
theorem p5:tfield Tryz.prog 185 2=some (2,3):=by kernel_rfl
theorem oa:tfield Tryz.prog 185 3=some (3,3):=by kernel_rfl
theorem oc:tfield Tryz.prog 185 4=some (4,3):=by kernel_rfl
theorem sv:tfield Tryz.prog 185 5=some (5,3):=by kernel_rfl
theorem fM:tsize Tryz.prog 188=3:=by kernel_rfl
theorem Io:tagg Tryz.prog 188=true:=by kernel_rfl
theorem jl:tok Tryz.prog 188=true:=by kernel_rfl
theorem xJ:tzero Tryz.prog 188=some (.agg [.int .i64 0,.int .i64 0,.int .i64 0]):=by kernel_rfl
theorem ua:fP Tryz.prog 188=true:=by kernel_rfl
theorem Iv:tbuild Tryz.prog 188=true:=by kernel_rfl
theorem iy:tfield Tryz.prog 188 0=some (0,3):=by kernel_rfl
theorem lT:tfield Tryz.prog 188 1=some (1,3):=by kernel_rfl
theorem kJ:tfield Tryz.prog 188 2=some (2,3):=by kernel_rfl
theorem Zw:tok Tryz.prog 213=true:=by kernel_rfl
theorem Zu:tint Tryz.prog 213=some .u64:=by kernel_rfl
theorem RE:telem Tryz.prog 222=some 9:=by kernel_rfl
theorem dy:tsize Tryz.prog 230=3:=by kernel_rfl
theorem ox:tagg Tryz.prog 230=true:=by kernel_rfl
theorem eZ:tok Tryz.prog 230=true:=by kernel_rfl
theorem ly:tzero Tryz.prog 230=some (.agg [.nil,.int .i64 0,.int .i64 0]):=by kernel_rfl
theorem ny:fP Tryz.prog 230=true:=by kernel_rfl
theorem ES:tbuild Tryz.prog 230=true:=by kernel_rfl
theorem gn:tfield Tryz.prog 230 0=some (0,22):=by kernel_rfl
theorem gS:tfield Tryz.prog 230 1=some (1,3):=by kernel_rfl
theorem gT:tfield Tryz.prog 230 2=some (2,3):=by kernel_rfl
theorem RK:tsize Tryz.prog 237=1:=by kernel_rfl
theorem Ip:tagg Tryz.prog 237=false:=by kernel_rfl
theorem zU:tok Tryz.prog 237=true:=by kernel_rfl
theorem RP:tzero Tryz.prog 237=some (.nilf):=by kernel_rfl
theorem gW:tsize Tryz.prog 239=7:=by kernel_rfl
theorem sk:tagg Tryz.prog 239=true:=by kernel_rfl
theorem kr:tok Tryz.prog 239=true:=by kernel_rfl
theorem z8:tzero Tryz.prog 239=some (.agg [.int .i64 0,.int .i64 0,.int .i64 0,.int .i64 0,.int .i64 0,.int .i64 0,.int .i64 0]):=by kernel_rfl
theorem zZ:fP Tryz.prog 239=true:=by kernel_rfl
theorem NU:tbuild Tryz.prog 239=true:=by kernel_rfl
theorem od:tfield Tryz.prog 239 0=some (0,3):=by kernel_rfl
theorem p6:tfield Tryz.prog 239 1=some (1,3):=by kernel_rfl
theorem sw:tfield Tryz.prog 239 2=some (2,3):=by kernel_rfl
theorem sx:tfield Tryz.prog 239 3=some (3,3):=by kernel_rfl
theorem jF:tfield Tryz.prog 239 4=some (4,3):=by kernel_rfl
theorem lU:tfield Tryz.prog 239 5=some (5,3):=by kernel_rfl
theorem p7:tfield Tryz.prog 239 6=some (6,3):=by kernel_rfl
theorem pA:tagg Tryz.prog 254=false:=by kernel_rfl
theorem pC:tok Tryz.prog 254=true:=by kernel_rfl
theorem ln:telem Tryz.prog 254=some 40:=by kernel_rfl
theorem RF:telem Tryz.prog 278=some 5:=by kernel_rfl
theorem qt:NR Tryz.prog 288=true:=by kernel_rfl
theorem tX:telem Tryz.prog 296=some 299:=by kernel_rfl
theorem ub:tsize Tryz.prog 299=2:=by kernel_rfl
theorem Zq:tagg Tryz.prog 299=true:=by kernel_rfl
theorem zW:tok Tryz.prog 299=true:=by kernel_rfl
theorem RQ:tzero Tryz.prog 299=some (.agg [.int .i64 0,.bool false]):=by kernel_rfl
theorem RJ:fP Tryz.prog 299=true:=by kernel_rfl
theorem ZD:tbuild Tryz.prog 299=true:=by kernel_rfl
theorem u1:tfield Tryz.prog 299 0=some (0,3):=by kernel_rfl
theorem Ba:tfield Tryz.prog 299 1=some (1,4):=by kernel_rfl
theorem mixed:Tryz.prog.follows .mixedOrders=true:=by kernel_rfl
theorem ac8:di Tryz.prog 6:=⟨_,Tryz.func6,by kernel_rfl,rfl⟩
theorem Xj:di Tryz.prog 12:=⟨_,Tryz.func12,by kernel_rfl,rfl⟩
theorem Xk:di Tryz.prog 21:=⟨_,Tryz.func21,by kernel_rfl,rfl⟩
theorem Xl:di Tryz.prog 22:=⟨_,Tryz.func22,by kernel_rfl,rfl⟩
theorem fb:di Tryz.prog 23:=⟨_,Tryz.func23,by kernel_rfl,rfl⟩
theorem Xm:di Tryz.prog 24:=⟨_,Tryz.func24,by kernel_rfl,rfl⟩
theorem Xn:di Tryz.prog 25:=⟨_,Tryz.func25,by kernel_rfl,rfl⟩
theorem QL:di Tryz.prog 28:=⟨_,Tryz.func28,by kernel_rfl,rfl⟩
theorem QM:di Tryz.prog 30:=⟨_,Tryz.func30,by kernel_rfl,rfl⟩
theorem Xo:di Tryz.prog 31:=⟨_,Tryz.func31,by kernel_rfl,rfl⟩
theorem pk:di Tryz.prog 32:=⟨_,Tryz.func32,by kernel_rfl,rfl⟩
theorem Xp:di Tryz.prog 33:=⟨_,Tryz.func33,by kernel_rfl,rfl⟩
theorem ij:di Tryz.prog 34:=⟨_,Tryz.func34,by kernel_rfl,rfl⟩
theorem Xq:di Tryz.prog 35:=⟨_,Tryz.func35,by kernel_rfl,rfl⟩
theorem QN:di Tryz.prog 36:=⟨_,Tryz.func36,by kernel_rfl,rfl⟩
theorem Mx:di Tryz.prog 37:=⟨_,Tryz.func37,by kernel_rfl,rfl⟩
theorem Xr:di Tryz.prog 38:=⟨_,Tryz.func38,by kernel_rfl,rfl⟩
theorem Xs:di Tryz.prog 39:=⟨_,Tryz.func39,by kernel_rfl,rfl⟩
theorem Xt:di Tryz.prog 40:=⟨_,Tryz.func40,by kernel_rfl,rfl⟩
theorem qp:di Tryz.prog 41:=⟨_,Tryz.func41,by kernel_rfl,rfl⟩
theorem rO:di Tryz.prog 42:=⟨_,Tryz.func42,by kernel_rfl,rfl⟩
theorem Xu:di Tryz.prog 43:=⟨_,Tryz.func43,by kernel_rfl,rfl⟩
theorem QO:di Tryz.prog 54:=⟨_,Tryz.func54,by kernel_rfl,rfl⟩
theorem Xv:di Tryz.prog 57:=⟨_,Tryz.func57,by kernel_rfl,rfl⟩
theorem Xw:di Tryz.prog 62:=⟨_,Tryz.func62,by kernel_rfl,rfl⟩
theorem QP:di Tryz.prog 63:=⟨_,Tryz.func63,by kernel_rfl,rfl⟩
theorem QQ:di Tryz.prog 64:=⟨_,Tryz.func64,by kernel_rfl,rfl⟩
theorem Xx:di Tryz.prog 65:=⟨_,Tryz.func65,by kernel_rfl,rfl⟩
theorem Xy:di Tryz.prog 66:=⟨_,Tryz.func66,by kernel_rfl,rfl⟩
theorem yR:di Tryz.prog 67:=⟨_,Tryz.func67,by kernel_rfl,rfl⟩
theorem rP:di Tryz.prog 68:=⟨_,Tryz.func68,by kernel_rfl,rfl⟩
theorem Xz:di Tryz.prog 69:=⟨_,Tryz.func69,by kernel_rfl,rfl⟩
theorem XA:di Tryz.prog 70:=⟨_,Tryz.func70,by kernel_rfl,rfl⟩
theorem XB:di Tryz.prog 71:=⟨_,Tryz.func71,by kernel_rfl,rfl⟩
theorem tM:di Tryz.prog 73:=⟨_,Tryz.func73,by kernel_rfl,rfl⟩
theorem XC:di Tryz.prog 74:=⟨_,Tryz.func74,by kernel_rfl,rfl⟩
theorem XD:di Tryz.prog 75:=⟨_,Tryz.func75,by kernel_rfl,rfl⟩
theorem QR:di Tryz.prog 77:=⟨_,Tryz.func77,by kernel_rfl,rfl⟩
theorem XE:di Tryz.prog 78:=⟨_,Tryz.func78,by kernel_rfl,rfl⟩
theorem XF:di Tryz.prog 79:=⟨_,Tryz.func79,by kernel_rfl,rfl⟩
theorem HF:di Tryz.prog 80:=⟨_,Tryz.func80,by kernel_rfl,rfl⟩
theorem XG:di Tryz.prog 81:=⟨_,Tryz.func81,by kernel_rfl,rfl⟩
theorem XH:di Tryz.prog 82:=⟨_,Tryz.func82,by kernel_rfl,rfl⟩
theorem QS:di Tryz.prog 83:=⟨_,Tryz.func83,by kernel_rfl,rfl⟩
theorem My:di Tryz.prog 84:=⟨_,Tryz.func84,by kernel_rfl,rfl⟩
theorem HG:di Tryz.prog 85:=⟨_,Tryz.func85,by kernel_rfl,rfl⟩
theorem QT:di Tryz.prog 86:=⟨_,Tryz.func86,by kernel_rfl,rfl⟩
theorem XI:di Tryz.prog 87:=⟨_,Tryz.func87,by kernel_rfl,rfl⟩
theorem XJ:di Tryz.prog 88:=⟨_,Tryz.func88,by kernel_rfl,rfl⟩
theorem XK:di Tryz.prog 89:=⟨_,Tryz.func89,by kernel_rfl,rfl⟩
theorem Tl:di Tryz.prog 110:=⟨_,Tryz.func110,by kernel_rfl,rfl⟩
theorem L7:di Tryz.prog 111:=⟨_,Tryz.func111,by kernel_rfl,rfl⟩
theorem Tm:di Tryz.prog 112:=⟨_,Tryz.func112,by kernel_rfl,rfl⟩
theorem AH:di Tryz.prog 113:=⟨_,Tryz.func113,by kernel_rfl,rfl⟩
theorem Tn:di Tryz.prog 114:=⟨_,Tryz.func114,by kernel_rfl,rfl⟩
theorem s9:di Tryz.prog 115:=⟨_,Tryz.func115,by kernel_rfl,rfl⟩
theorem ta:di Tryz.prog 116:=⟨_,Tryz.func116,by kernel_rfl,rfl⟩
theorem To:di Tryz.prog 117:=⟨_,Tryz.func117,by kernel_rfl,rfl⟩
theorem Tq:di Tryz.prog 118:=⟨_,Tryz.func118,by kernel_rfl,rfl⟩
theorem Tr:di Tryz.prog 119:=⟨_,Tryz.func119,by kernel_rfl,rfl⟩
theorem L8:di Tryz.prog 120:=⟨_,Tryz.func120,by kernel_rfl,rfl⟩
theorem Ts:di Tryz.prog 121:=⟨_,Tryz.func121,by kernel_rfl,rfl⟩
theorem Tt:di Tryz.prog 122:=⟨_,Tryz.func122,by kernel_rfl,rfl⟩
theorem Tu:di Tryz.prog 123:=⟨_,Tryz.func123,by kernel_rfl,rfl⟩
theorem Tv:di Tryz.prog 124:=⟨_,Tryz.func124,by kernel_rfl,rfl⟩
theorem L9:di Tryz.prog 125:=⟨_,Tryz.func125,by kernel_rfl,rfl⟩
theorem Tw:di Tryz.prog 126:=⟨_,Tryz.func126,by kernel_rfl,rfl⟩
theorem Tx:di Tryz.prog 127:=⟨_,Tryz.func127,by kernel_rfl,rfl⟩
theorem Ty:di Tryz.prog 128:=⟨_,Tryz.func128,by kernel_rfl,rfl⟩
theorem Ma:di Tryz.prog 129:=⟨_,Tryz.func129,by kernel_rfl,rfl⟩
theorem Mb:di Tryz.prog 130:=⟨_,Tryz.func130,by kernel_rfl,rfl⟩
theorem Mc:di Tryz.prog 131:=⟨_,Tryz.func131,by kernel_rfl,rfl⟩
theorem Tz:di Tryz.prog 132:=⟨_,Tryz.func132,by kernel_rfl,rfl⟩
theorem Md:di Tryz.prog 133:=⟨_,Tryz.func133,by kernel_rfl,rfl⟩
theorem FZ:di Tryz.prog 134:=⟨_,Tryz.func134,by kernel_rfl,rfl⟩
theorem TA:di Tryz.prog 135:=⟨_,Tryz.func135,by kernel_rfl,rfl⟩
theorem TB:di Tryz.prog 136:=⟨_,Tryz.func136,by kernel_rfl,rfl⟩
theorem Me:di Tryz.prog 137:=⟨_,Tryz.func137,by kernel_rfl,rfl⟩
theorem TC:di Tryz.prog 138:=⟨_,Tryz.func138,by kernel_rfl,rfl⟩
theorem TD:di Tryz.prog 139:=⟨_,Tryz.func139,by kernel_rfl,rfl⟩
theorem Mf:di Tryz.prog 140:=⟨_,Tryz.func140,by kernel_rfl,rfl⟩
theorem TE:di Tryz.prog 141:=⟨_,Tryz.func141,by kernel_rfl,rfl⟩
theorem TF:di Tryz.prog 142:=⟨_,Tryz.func142,by kernel_rfl,rfl⟩
theorem TG:di Tryz.prog 143:=⟨_,Tryz.func143,by kernel_rfl,rfl⟩
theorem TH:di Tryz.prog 144:=⟨_,Tryz.func144,by kernel_rfl,rfl⟩
theorem Mg:di Tryz.prog 145:=⟨_,Tryz.func145,by kernel_rfl,rfl⟩
theorem TI:di Tryz.prog 147:=⟨_,Tryz.func147,by kernel_rfl,rfl⟩
theorem Mh:di Tryz.prog 148:=⟨_,Tryz.func148,by kernel_rfl,rfl⟩
theorem F1:di Tryz.prog 149:=⟨_,Tryz.func149,by kernel_rfl,rfl⟩
theorem Mi:di Tryz.prog 150:=⟨_,Tryz.func150,by kernel_rfl,rfl⟩
theorem Mj:di Tryz.prog 151:=⟨_,Tryz.func151,by kernel_rfl,rfl⟩
theorem TJ:di Tryz.prog 152:=⟨_,Tryz.func152,by kernel_rfl,rfl⟩
theorem Mk:di Tryz.prog 153:=⟨_,Tryz.func153,by kernel_rfl,rfl⟩
theorem Ml:di Tryz.prog 154:=⟨_,Tryz.func154,by kernel_rfl,rfl⟩
theorem TK:di Tryz.prog 156:=⟨_,Tryz.func156,by kernel_rfl,rfl⟩
theorem F2:di Tryz.prog 159:=⟨_,Tryz.func159,by kernel_rfl,rfl⟩
theorem qN:di Tryz.prog 160:=⟨_,Tryz.func160,by kernel_rfl,rfl⟩
theorem TL:di Tryz.prog 176:=⟨_,Tryz.func176,by kernel_rfl,rfl⟩
theorem TM:di Tryz.prog 177:=⟨_,Tryz.func177,by kernel_rfl,rfl⟩
theorem TN:di Tryz.prog 178:=⟨_,Tryz.func178,by kernel_rfl,rfl⟩
theorem TO:di Tryz.prog 179:=⟨_,Tryz.func179,by kernel_rfl,rfl⟩
theorem tb:di Tryz.prog 180:=⟨_,Tryz.func180,by kernel_rfl,rfl⟩
theorem Mm:di Tryz.prog 181:=⟨_,Tryz.func181,by kernel_rfl,rfl⟩
theorem TP:di Tryz.prog 182:=⟨_,Tryz.func182,by kernel_rfl,rfl⟩
theorem Mn:di Tryz.prog 183:=⟨_,Tryz.func183,by kernel_rfl,rfl⟩
theorem TQ:di Tryz.prog 184:=⟨_,Tryz.func184,by kernel_rfl,rfl⟩
theorem Mo:di Tryz.prog 185:=⟨_,Tryz.func185,by kernel_rfl,rfl⟩
theorem Mp:di Tryz.prog 186:=⟨_,Tryz.func186,by kernel_rfl,rfl⟩
theorem TR:di Tryz.prog 187:=⟨_,Tryz.func187,by kernel_rfl,rfl⟩
theorem F3:di Tryz.prog 188:=⟨_,Tryz.func188,by kernel_rfl,rfl⟩
theorem Mq:di Tryz.prog 189:=⟨_,Tryz.func189,by kernel_rfl,rfl⟩
theorem TS:di Tryz.prog 190:=⟨_,Tryz.func190,by kernel_rfl,rfl⟩
theorem Mr:di Tryz.prog 191:=⟨_,Tryz.func191,by kernel_rfl,rfl⟩
theorem TT:di Tryz.prog 194:=⟨_,Tryz.func194,by kernel_rfl,rfl⟩
theorem Ms:di Tryz.prog 195:=⟨_,Tryz.func195,by kernel_rfl,rfl⟩
theorem TU:di Tryz.prog 196:=⟨_,Tryz.func196,by kernel_rfl,rfl⟩
theorem Mt:di Tryz.prog 197:=⟨_,Tryz.func197,by kernel_rfl,rfl⟩
theorem TV:di Tryz.prog 198:=⟨_,Tryz.func198,by kernel_rfl,rfl⟩
theorem TW:di Tryz.prog 199:=⟨_,Tryz.func199,by kernel_rfl,rfl⟩
theorem Mu:di Tryz.prog 200:=⟨_,Tryz.func200,by kernel_rfl,rfl⟩
theorem TX:di Tryz.prog 201:=⟨_,Tryz.func201,by kernel_rfl,rfl⟩
theorem TY:di Tryz.prog 202:=⟨_,Tryz.func202,by kernel_rfl,rfl⟩
theorem Mv:di Tryz.prog 203:=⟨_,Tryz.func203,by kernel_rfl,rfl⟩
theorem TZ:di Tryz.prog 210:=⟨_,Tryz.func210,by kernel_rfl,rfl⟩
theorem T0:di Tryz.prog 211:=⟨_,Tryz.func211,by kernel_rfl,rfl⟩
theorem T1:di Tryz.prog 212:=⟨_,Tryz.func212,by kernel_rfl,rfl⟩
theorem T2:di Tryz.prog 213:=⟨_,Tryz.func213,by kernel_rfl,rfl⟩
theorem T3:di Tryz.prog 214:=⟨_,Tryz.func214,by kernel_rfl,rfl⟩
theorem T4:di Tryz.prog 215:=⟨_,Tryz.func215,by kernel_rfl,rfl⟩
theorem T5:di Tryz.prog 218:=⟨_,Tryz.func218,by kernel_rfl,rfl⟩
theorem T6:di Tryz.prog 219:=⟨_,Tryz.func219,by kernel_rfl,rfl⟩
theorem Mw:di Tryz.prog 220:=⟨_,Tryz.func220,by kernel_rfl,rfl⟩
theorem T7:di Tryz.prog 224:=⟨_,Tryz.func224,by kernel_rfl,rfl⟩
theorem T8:di Tryz.prog 225:=⟨_,Tryz.func225,by kernel_rfl,rfl⟩
theorem T9:di Tryz.prog 226:=⟨_,Tryz.func226,by kernel_rfl,rfl⟩
end Go.Proofs.YtiinmaihgmfniaaGreat
