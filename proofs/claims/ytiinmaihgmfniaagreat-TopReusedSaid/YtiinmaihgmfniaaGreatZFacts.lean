import Derived.Test.YtiinmaihgmfniaaGreatProg
import Derived.Test.YtiinmaihgmfniaaGreatZLb
import Derived.Test.YtiinmaihgmfniaaGreatZLc
namespace Go.Proofs.YtiinmaihgmfniaaGreat
open Go.L
theorem aW:tsize Tryz.prog 3=1:=by kernel_rfl
theorem b5:tagg Tryz.prog 3=false:=by kernel_rfl
theorem aD:tok Tryz.prog 3=true:=by kernel_rfl
theorem ti3:tint Tryz.prog 3=some .i64:=by kernel_rfl
theorem NZ:tzero Tryz.prog 3=some (.int .i64 0):=by kernel_rfl
theorem qL:fQ Tryz.prog 3=true:=by kernel_rfl
theorem sM:tsize Tryz.prog 4=1:=by kernel_rfl
theorem B7:tagg Tryz.prog 4=false:=by kernel_rfl
theorem nq:tok Tryz.prog 4=true:=by kernel_rfl
theorem Yy:xK Tryz.prog 4=true:=by kernel_rfl
theorem Yz:fQ Tryz.prog 4=true:=by kernel_rfl
theorem ts5:tsize Tryz.prog 5=1:=by kernel_rfl
theorem ZS:tint Tryz.prog 5=some .u8:=by kernel_rfl
theorem tr5:fQ Tryz.prog 5=true:=by kernel_rfl
theorem Kw:tsize Tryz.prog 9=1:=by kernel_rfl
theorem RK:tagg Tryz.prog 9=false:=by kernel_rfl
theorem B8:tok Tryz.prog 9=true:=by kernel_rfl
theorem Vf:GN Tryz.prog 9=true:=by kernel_rfl
theorem tr9:fQ Tryz.prog 9=true:=by kernel_rfl
theorem dQ:tsize Tryz.prog 22=1:=by kernel_rfl
theorem eu:tagg Tryz.prog 22=false:=by kernel_rfl
theorem cm:tok Tryz.prog 22=true:=by kernel_rfl
theorem bU:telem Tryz.prog 22=some 3:=by kernel_rfl
theorem Rh:tzero Tryz.prog 22=some (.nil):=by kernel_rfl
theorem dh:tsize Tryz.prog 40=3:=by kernel_rfl
theorem jX:tagg Tryz.prog 40=true:=by kernel_rfl
theorem di:tok Tryz.prog 40=true:=by kernel_rfl
theorem yS:tzero Tryz.prog 40=some (.agg [.int .i64 0,.int .i64 0,.int .i64 0]):=by kernel_rfl
theorem YA:fQ Tryz.prog 40=true:=by kernel_rfl
theorem Mj:tbuild Tryz.prog 40=true:=by kernel_rfl
theorem ky:tfield Tryz.prog 40 0=some (0,3):=by kernel_rfl
theorem gO:tfield Tryz.prog 40 1=some (1,3):=by kernel_rfl
theorem gy:tfield Tryz.prog 40 2=some (2,3):=by kernel_rfl
theorem qw:telem Tryz.prog 48=some 143:=by kernel_rfl
theorem DO:tsize Tryz.prog 49=1:=by kernel_rfl
theorem DM:tok Tryz.prog 49=true:=by kernel_rfl
theorem YC:tsize Tryz.prog 65=1:=by kernel_rfl
theorem Yx:tagg Tryz.prog 65=false:=by kernel_rfl
theorem Vn:tok Tryz.prog 65=true:=by kernel_rfl
theorem YG:tzero Tryz.prog 65=some (.nilf):=by kernel_rfl
theorem lg:telem Tryz.prog 74=some 110:=by kernel_rfl
theorem qB:tsize Tryz.prog 76=1:=by kernel_rfl
theorem u0:tagg Tryz.prog 76=false:=by kernel_rfl
theorem jI:tok Tryz.prog 76=true:=by kernel_rfl
theorem mz:telem Tryz.prog 76=some 179:=by kernel_rfl
theorem cY:tsize Tryz.prog 78=1:=by kernel_rfl
theorem eT:tagg Tryz.prog 78=true:=by kernel_rfl
theorem cX:tok Tryz.prog 78=true:=by kernel_rfl
theorem jJ:tzero Tryz.prog 78=some (.agg [.nil]):=by kernel_rfl
theorem wh:tbuild Tryz.prog 78=true:=by kernel_rfl
theorem jh:tfield Tryz.prog 78 0=some (0,76):=by kernel_rfl
theorem oi:tsize Tryz.prog 79=1:=by kernel_rfl
theorem sJ:tagg Tryz.prog 79=false:=by kernel_rfl
theorem iM:tok Tryz.prog 79=true:=by kernel_rfl
theorem eR:telem Tryz.prog 79=some 108:=by kernel_rfl
theorem YD:tsize Tryz.prog 82=1:=by kernel_rfl
theorem Ra:tagg Tryz.prog 82=false:=by kernel_rfl
theorem Mg:tok Tryz.prog 82=true:=by kernel_rfl
theorem YH:tzero Tryz.prog 82=some (.nilf):=by kernel_rfl
theorem GM:tsize Tryz.prog 83=1:=by kernel_rfl
theorem GJ:tagg Tryz.prog 83=false:=by kernel_rfl
theorem sK:tok Tryz.prog 83=true:=by kernel_rfl
theorem u3:telem Tryz.prog 83=some 188:=by kernel_rfl
theorem Mi:tsize Tryz.prog 84=1:=by kernel_rfl
theorem Vi:tagg Tryz.prog 84=false:=by kernel_rfl
theorem GL:tok Tryz.prog 84=true:=by kernel_rfl
theorem Mc:telem Tryz.prog 84=some 99:=by kernel_rfl
theorem Kv:tsize Tryz.prog 86=9:=by kernel_rfl
theorem Mb:tagg Tryz.prog 86=true:=by kernel_rfl
theorem Kt:tok Tryz.prog 86=true:=by kernel_rfl
theorem Vr:tzero Tryz.prog 86=some (.agg [.int .i64 0,.int .i64 0,.int .i64 0,.int .i64 0,.nil,.nil,.nil,.nil,.int .i64 0]):=by kernel_rfl
theorem YE:tbuild Tryz.prog 86=true:=by kernel_rfl
theorem DE:tfield Tryz.prog 86 0=some (0,3):=by kernel_rfl
theorem DF:tfield Tryz.prog 86 1=some (1,3):=by kernel_rfl
theorem Ks:tfield Tryz.prog 86 2=some (2,3):=by kernel_rfl
theorem DG:tfield Tryz.prog 86 3=some (3,3):=by kernel_rfl
theorem DH:tfield Tryz.prog 86 4=some (4,83):=by kernel_rfl
theorem DI:tfield Tryz.prog 86 5=some (5,83):=by kernel_rfl
theorem u4:tfield Tryz.prog 86 6=some (6,22):=by kernel_rfl
theorem DJ:tfield Tryz.prog 86 7=some (7,84):=by kernel_rfl
theorem DK:tfield Tryz.prog 86 8=some (8,3):=by kernel_rfl
theorem wg:tsize Tryz.prog 87=1:=by kernel_rfl
theorem u1:tagg Tryz.prog 87=false:=by kernel_rfl
theorem lh:tok Tryz.prog 87=true:=by kernel_rfl
theorem lU:telem Tryz.prog 87=some 230:=by kernel_rfl
theorem YI:tzero Tryz.prog 87=some (.nil):=by kernel_rfl
theorem lk:tsize Tryz.prog 89=2:=by kernel_rfl
theorem pM:tagg Tryz.prog 89=true:=by kernel_rfl
theorem lj:tok Tryz.prog 89=true:=by kernel_rfl
theorem DQ:tzero Tryz.prog 89=some (.agg [.nil,.nil]):=by kernel_rfl
theorem Mk:tbuild Tryz.prog 89=true:=by kernel_rfl
theorem kz:tfield Tryz.prog 89 0=some (0,22):=by kernel_rfl
theorem mR:tfield Tryz.prog 89 1=some (1,87):=by kernel_rfl
theorem Kx:tsize Tryz.prog 92=1:=by kernel_rfl
theorem DC:tagg Tryz.prog 92=false:=by kernel_rfl
theorem sL:tok Tryz.prog 92=true:=by kernel_rfl
theorem yM:telem Tryz.prog 92=some 239:=by kernel_rfl
theorem YJ:tzero Tryz.prog 92=some (.nil):=by kernel_rfl
theorem DP:tsize Tryz.prog 94=4:=by kernel_rfl
theorem Rb:tagg Tryz.prog 94=true:=by kernel_rfl
theorem DN:tok Tryz.prog 94=true:=by kernel_rfl
theorem KB:tzero Tryz.prog 94=some (.agg [.bool false,.nil,.int .i64 0,.nil]):=by kernel_rfl
theorem YF:tbuild Tryz.prog 94=true:=by kernel_rfl
theorem u5:tfield Tryz.prog 94 0=some (0,4):=by kernel_rfl
theorem rE:tfield Tryz.prog 94 1=some (1,22):=by kernel_rfl
theorem DL:tfield Tryz.prog 94 2=some (2,3):=by kernel_rfl
theorem Rc:tfield Tryz.prog 94 3=some (3,92):=by kernel_rfl
theorem yR:tsize Tryz.prog 97=1:=by kernel_rfl
theorem DD:tagg Tryz.prog 97=false:=by kernel_rfl
theorem oZ:tok Tryz.prog 97=true:=by kernel_rfl
theorem mA:telem Tryz.prog 97=some 105:=by kernel_rfl
theorem qC:tsize Tryz.prog 99=2:=by kernel_rfl
theorem GK:tagg Tryz.prog 99=true:=by kernel_rfl
theorem rF:tok Tryz.prog 99=true:=by kernel_rfl
theorem DR:tzero Tryz.prog 99=some (.agg [.int .i64 0,.nil]):=by kernel_rfl
theorem YB:fQ Tryz.prog 99=true:=by kernel_rfl
theorem Rf:tbuild Tryz.prog 99=true:=by kernel_rfl
theorem Re:tfield Tryz.prog 99 0=some (0,3):=by kernel_rfl
theorem og:tfield Tryz.prog 99 1=some (1,97):=by kernel_rfl
theorem dW:tsize Tryz.prog 105=2:=by kernel_rfl
theorem o6:tagg Tryz.prog 105=true:=by kernel_rfl
theorem eA:tok Tryz.prog 105=true:=by kernel_rfl
theorem xQ:tzero Tryz.prog 105=some (.agg [.int .i64 0,.int .i64 0]):=by kernel_rfl
theorem E6:fQ Tryz.prog 105=true:=by kernel_rfl
theorem xP:tbuild Tryz.prog 105=true:=by kernel_rfl
theorem jo:tfield Tryz.prog 105 0=some (0,3):=by kernel_rfl
theorem fq:tfield Tryz.prog 105 1=some (1,3):=by kernel_rfl
theorem dP:tsize Tryz.prog 106=1:=by kernel_rfl
theorem gf:tagg Tryz.prog 106=false:=by kernel_rfl
theorem cE:tok Tryz.prog 106=true:=by kernel_rfl
theorem eP:telem Tryz.prog 106=some 185:=by kernel_rfl
theorem bn:tsize Tryz.prog 108=5:=by kernel_rfl
theorem c7:tagg Tryz.prog 108=true:=by kernel_rfl
theorem bA:tok Tryz.prog 108=true:=by kernel_rfl
theorem jO:tzero Tryz.prog 108=some (.agg [.int .i64 0,.int .i64 0,.str (ByteArray.mk #[]),.nil,.nil]):=by kernel_rfl
theorem u9:fQ Tryz.prog 108=true:=by kernel_rfl
theorem E7:tbuild Tryz.prog 108=true:=by kernel_rfl
theorem dZ:tfield Tryz.prog 108 0=some (0,3):=by kernel_rfl
theorem gh:tfield Tryz.prog 108 1=some (1,3):=by kernel_rfl
theorem kN:tfield Tryz.prog 108 2=some (2,9):=by kernel_rfl
theorem dA:tfield Tryz.prog 108 3=some (3,106):=by kernel_rfl
theorem hT:tfield Tryz.prog 108 4=some (4,22):=by kernel_rfl
theorem dJ:tsize Tryz.prog 110=12:=by kernel_rfl
theorem iv:tagg Tryz.prog 110=true:=by kernel_rfl
theorem eB:tok Tryz.prog 110=true:=by kernel_rfl
theorem so:tzero Tryz.prog 110=some (.agg [.int .i64 0,.int .i64 0,.int .i64 0,.int .i64 0,.int .i64 0,.int .i64 0,.str (ByteArray.mk #[]),.nil,.nil,.int .i64 0,.int .i64 0,.int .i64 0]):=by kernel_rfl
theorem xN:fQ Tryz.prog 110=true:=by kernel_rfl
theorem E8:tbuild Tryz.prog 110=true:=by kernel_rfl
theorem dE:tfield Tryz.prog 110 0=some (0,40):=by kernel_rfl
theorem dB:tfield Tryz.prog 110 1=some (3,3):=by kernel_rfl
theorem fu:tfield Tryz.prog 110 2=some (4,108):=by kernel_rfl
theorem fI:tfield Tryz.prog 110 3=some (9,105):=by kernel_rfl
theorem mB:tfield Tryz.prog 110 4=some (11,3):=by kernel_rfl
theorem kS:tsize Tryz.prog 120=3:=by kernel_rfl
theorem sg:tagg Tryz.prog 120=true:=by kernel_rfl
theorem kQ:tok Tryz.prog 120=true:=by kernel_rfl
theorem vi:tzero Tryz.prog 120=some (.agg [.int .i64 0,.int .i64 0,.nil]):=by kernel_rfl
theorem E9:tbuild Tryz.prog 120=true:=by kernel_rfl
theorem s7:tfield Tryz.prog 120 0=some (0,3):=by kernel_rfl
theorem s8:tfield Tryz.prog 120 1=some (1,3):=by kernel_rfl
theorem mE:tfield Tryz.prog 120 2=some (2,106):=by kernel_rfl
theorem NV:tzero Tryz.prog 129=some (.agg [.nil,.int .i64 0]):=by kernel_rfl
theorem NT:tbuild Tryz.prog 129=true:=by kernel_rfl
theorem s9:tfield Tryz.prog 129 0=some (0,22):=by kernel_rfl
theorem ta:tfield Tryz.prog 129 1=some (1,3):=by kernel_rfl
theorem vd:tsize Tryz.prog 141=2:=by kernel_rfl
theorem u6:tok Tryz.prog 141=true:=by kernel_rfl
theorem vj:tzero Tryz.prog 141=some (.agg [.int .i64 0,.int .i64 0]):=by kernel_rfl
theorem vf:tbuild Tryz.prog 141=true:=by kernel_rfl
theorem mG:tfield Tryz.prog 141 0=some (0,3):=by kernel_rfl
theorem mH:tfield Tryz.prog 141 1=some (1,3):=by kernel_rfl
theorem kT:tsize Tryz.prog 143=3:=by kernel_rfl
theorem vm:tzero Tryz.prog 143=some (.agg [.int .i64 0,.int .i64 0,.int .i64 0]):=by kernel_rfl
theorem kR:fQ Tryz.prog 143=true:=by kernel_rfl
theorem vh:tbuild Tryz.prog 143=true:=by kernel_rfl
theorem mI:tfield Tryz.prog 143 0=some (0,141):=by kernel_rfl
theorem mJ:tfield Tryz.prog 143 1=some (2,49):=by kernel_rfl
theorem lV:tsize Tryz.prog 151=1:=by kernel_rfl
theorem si:tagg Tryz.prog 151=false:=by kernel_rfl
theorem gW:tok Tryz.prog 151=true:=by kernel_rfl
theorem qt:telem Tryz.prog 151=some 4:=by kernel_rfl
theorem Vg:tagg Tryz.prog 167=false:=by kernel_rfl
theorem Vl:tok Tryz.prog 167=true:=by kernel_rfl
theorem kU:tzero Tryz.prog 171=some (.nilf):=by kernel_rfl
theorem nr:tsize Tryz.prog 177=1:=by kernel_rfl
theorem sj:tagg Tryz.prog 177=false:=by kernel_rfl
theorem iw:tok Tryz.prog 177=true:=by kernel_rfl
theorem qu:telem Tryz.prog 177=some 182:=by kernel_rfl
theorem fk:tsize Tryz.prog 179=5:=by kernel_rfl
theorem od:tagg Tryz.prog 179=true:=by kernel_rfl
theorem fE:tok Tryz.prog 179=true:=by kernel_rfl
theorem vn:tzero Tryz.prog 179=some (.agg [.int .i64 0,.nil,.nil,.nil,.bool false]):=by kernel_rfl
theorem NP:fQ Tryz.prog 179=true:=by kernel_rfl
theorem Vo:tbuild Tryz.prog 179=true:=by kernel_rfl
theorem mK:tfield Tryz.prog 179 0=some (0,3):=by kernel_rfl
theorem fJ:tfield Tryz.prog 179 1=some (1,79):=by kernel_rfl
theorem iK:tfield Tryz.prog 179 2=some (2,151):=by kernel_rfl
theorem jq:tfield Tryz.prog 179 3=some (3,177):=by kernel_rfl
theorem oL:tfield Tryz.prog 179 4=some (4,4):=by kernel_rfl
theorem ve:tsize Tryz.prog 182=3:=by kernel_rfl
theorem NK:tagg Tryz.prog 182=true:=by kernel_rfl
theorem BL:tok Tryz.prog 182=true:=by kernel_rfl
theorem NW:tzero Tryz.prog 182=some (.agg [.int .i64 0,.int .i64 0,.int .i64 0]):=by kernel_rfl
theorem NQ:fQ Tryz.prog 182=true:=by kernel_rfl
theorem Vp:tbuild Tryz.prog 182=true:=by kernel_rfl
theorem yN:tfield Tryz.prog 182 0=some (0,3):=by kernel_rfl
theorem E4:tfield Tryz.prog 182 1=some (1,3):=by kernel_rfl
theorem E5:tfield Tryz.prog 182 2=some (2,3):=by kernel_rfl
theorem cF:tsize Tryz.prog 185=6:=by kernel_rfl
theorem fb:tagg Tryz.prog 185=true:=by kernel_rfl
theorem cT:tok Tryz.prog 185=true:=by kernel_rfl
theorem sq:tzero Tryz.prog 185=some (.agg [.int .i64 0,.int .i64 0,.int .i64 0,.int .i64 0,.int .i64 0,.int .i64 0]):=by kernel_rfl
theorem sm:fQ Tryz.prog 185=true:=by kernel_rfl
theorem NU:tbuild Tryz.prog 185=true:=by kernel_rfl
theorem qx:tfield Tryz.prog 185 0=some (0,3):=by kernel_rfl
theorem kO:tfield Tryz.prog 185 1=some (1,3):=by kernel_rfl
theorem qy:tfield Tryz.prog 185 2=some (2,3):=by kernel_rfl
theorem qz:tfield Tryz.prog 185 3=some (3,3):=by kernel_rfl
theorem mL:tfield Tryz.prog 185 4=some (4,3):=by kernel_rfl
theorem qA:tfield Tryz.prog 185 5=some (5,3):=by kernel_rfl
theorem nt:tsize Tryz.prog 188=3:=by kernel_rfl
theorem E1:tagg Tryz.prog 188=true:=by kernel_rfl
theorem np:tok Tryz.prog 188=true:=by kernel_rfl
theorem KA:tzero Tryz.prog 188=some (.agg [.int .i64 0,.int .i64 0,.int .i64 0]):=by kernel_rfl
theorem oN:tfield Tryz.prog 188 0=some (0,3):=by kernel_rfl
theorem yO:tfield Tryz.prog 188 1=some (1,3):=by kernel_rfl
theorem yP:tfield Tryz.prog 188 2=some (2,3):=by kernel_rfl
theorem Vm:tok Tryz.prog 213=true:=by kernel_rfl
theorem Vk:tint Tryz.prog 213=some .u64:=by kernel_rfl
theorem NL:telem Tryz.prog 222=some 9:=by kernel_rfl
theorem fF:tsize Tryz.prog 230=3:=by kernel_rfl
theorem uZ:tagg Tryz.prog 230=true:=by kernel_rfl
theorem iL:tok Tryz.prog 230=true:=by kernel_rfl
theorem qD:tzero Tryz.prog 230=some (.agg [.nil,.int .i64 0,.int .i64 0]):=by kernel_rfl
theorem va:fQ Tryz.prog 230=true:=by kernel_rfl
theorem Ky:tbuild Tryz.prog 230=true:=by kernel_rfl
theorem jr:tfield Tryz.prog 230 0=some (0,22):=by kernel_rfl
theorem mO:tfield Tryz.prog 230 1=some (1,3):=by kernel_rfl
theorem mP:tfield Tryz.prog 230 2=some (2,3):=by kernel_rfl
theorem NS:tsize Tryz.prog 237=1:=by kernel_rfl
theorem E2:tagg Tryz.prog 237=false:=by kernel_rfl
theorem xL:tok Tryz.prog 237=true:=by kernel_rfl
theorem NX:tzero Tryz.prog 237=some (.nilf):=by kernel_rfl
theorem lW:tsize Tryz.prog 239=7:=by kernel_rfl
theorem E3:tagg Tryz.prog 239=true:=by kernel_rfl
theorem u7:tok Tryz.prog 239=true:=by kernel_rfl
theorem Fa:tzero Tryz.prog 239=some (.agg [.int .i64 0,.int .i64 0,.int .i64 0,.int .i64 0,.int .i64 0,.int .i64 0,.int .i64 0]):=by kernel_rfl
theorem xO:fQ Tryz.prog 239=true:=by kernel_rfl
theorem Kz:tbuild Tryz.prog 239=true:=by kernel_rfl
theorem tb:tfield Tryz.prog 239 0=some (0,3):=by kernel_rfl
theorem Md:tfield Tryz.prog 239 1=some (1,3):=by kernel_rfl
theorem Me:tfield Tryz.prog 239 2=some (2,3):=by kernel_rfl
theorem Mf:tfield Tryz.prog 239 3=some (3,3):=by kernel_rfl
theorem mQ:tfield Tryz.prog 239 4=some (4,3):=by kernel_rfl
theorem kP:tfield Tryz.prog 239 5=some (5,3):=by kernel_rfl
theorem oO:tfield Tryz.prog 239 6=some (6,3):=by kernel_rfl
theorem oe:tagg Tryz.prog 254=false:=by kernel_rfl
theorem oh:tok Tryz.prog 254=true:=by kernel_rfl
theorem kx:telem Tryz.prog 254=some 40:=by kernel_rfl
theorem NM:telem Tryz.prog 278=some 5:=by kernel_rfl
theorem o7:Ku Tryz.prog 288=true:=by kernel_rfl
theorem sk:telem Tryz.prog 296=some 299:=by kernel_rfl
theorem sn:tsize Tryz.prog 299=2:=by kernel_rfl
theorem Vh:tagg Tryz.prog 299=true:=by kernel_rfl
theorem xM:tok Tryz.prog 299=true:=by kernel_rfl
theorem NY:tzero Tryz.prog 299=some (.agg [.int .i64 0,.bool false]):=by kernel_rfl
theorem NR:fQ Tryz.prog 299=true:=by kernel_rfl
theorem Vq:tbuild Tryz.prog 299=true:=by kernel_rfl
theorem tc:tfield Tryz.prog 299 0=some (0,3):=by kernel_rfl
theorem yQ:tfield Tryz.prog 299 1=some (1,4):=by kernel_rfl
theorem mixed:Tryz.prog.follows .mixedOrders=true:=by kernel_rfl
theorem X7:dn Tryz.prog 6:=⟨_,Tryz.func6,by kernel_rfl,rfl⟩
theorem MU:dn Tryz.prog 12:=⟨_,Tryz.func12,by kernel_rfl,rfl⟩
theorem Tm:dn Tryz.prog 21:=⟨_,Tryz.func21,by kernel_rfl,rfl⟩
theorem Tn:dn Tryz.prog 22:=⟨_,Tryz.func22,by kernel_rfl,rfl⟩
theorem iu:dn Tryz.prog 23:=⟨_,Tryz.func23,by kernel_rfl,rfl⟩
theorem MV:dn Tryz.prog 24:=⟨_,Tryz.func24,by kernel_rfl,rfl⟩
theorem MW:dn Tryz.prog 25:=⟨_,Tryz.func25,by kernel_rfl,rfl⟩
theorem To:dn Tryz.prog 26:=⟨_,Tryz.func26,by kernel_rfl,rfl⟩
theorem Tq:dn Tryz.prog 27:=⟨_,Tryz.func27,by kernel_rfl,rfl⟩
theorem Ej:dn Tryz.prog 28:=⟨_,Tryz.func28,by kernel_rfl,rfl⟩
theorem Tr:dn Tryz.prog 29:=⟨_,Tryz.func29,by kernel_rfl,rfl⟩
theorem Ts:dn Tryz.prog 30:=⟨_,Tryz.func30,by kernel_rfl,rfl⟩
theorem wI:dn Tryz.prog 32:=⟨_,Tryz.func32,by kernel_rfl,rfl⟩
theorem km:dn Tryz.prog 34:=⟨_,Tryz.func34,by kernel_rfl,rfl⟩
theorem Tt:dn Tryz.prog 36:=⟨_,Tryz.func36,by kernel_rfl,rfl⟩
theorem MX:dn Tryz.prog 37:=⟨_,Tryz.func37,by kernel_rfl,rfl⟩
theorem wJ:dn Tryz.prog 41:=⟨_,Tryz.func41,by kernel_rfl,rfl⟩
theorem zO:dn Tryz.prog 42:=⟨_,Tryz.func42,by kernel_rfl,rfl⟩
theorem Tu:dn Tryz.prog 43:=⟨_,Tryz.func43,by kernel_rfl,rfl⟩
theorem Tv:dn Tryz.prog 54:=⟨_,Tryz.func54,by kernel_rfl,rfl⟩
theorem Tw:dn Tryz.prog 62:=⟨_,Tryz.func62,by kernel_rfl,rfl⟩
theorem MY:dn Tryz.prog 63:=⟨_,Tryz.func63,by kernel_rfl,rfl⟩
theorem MZ:dn Tryz.prog 64:=⟨_,Tryz.func64,by kernel_rfl,rfl⟩
theorem Tx:dn Tryz.prog 65:=⟨_,Tryz.func65,by kernel_rfl,rfl⟩
theorem Ty:dn Tryz.prog 66:=⟨_,Tryz.func66,by kernel_rfl,rfl⟩
theorem IX:dn Tryz.prog 67:=⟨_,Tryz.func67,by kernel_rfl,rfl⟩
theorem IY:dn Tryz.prog 68:=⟨_,Tryz.func68,by kernel_rfl,rfl⟩
theorem Tz:dn Tryz.prog 69:=⟨_,Tryz.func69,by kernel_rfl,rfl⟩
theorem TA:dn Tryz.prog 70:=⟨_,Tryz.func70,by kernel_rfl,rfl⟩
theorem TB:dn Tryz.prog 71:=⟨_,Tryz.func71,by kernel_rfl,rfl⟩
theorem TC:dn Tryz.prog 72:=⟨_,Tryz.func72,by kernel_rfl,rfl⟩
theorem qj:dn Tryz.prog 73:=⟨_,Tryz.func73,by kernel_rfl,rfl⟩
theorem M0:dn Tryz.prog 74:=⟨_,Tryz.func74,by kernel_rfl,rfl⟩
theorem rS:dn Tryz.prog 75:=⟨_,Tryz.func75,by kernel_rfl,rfl⟩
theorem wL:dn Tryz.prog 76:=⟨_,Tryz.func76,by kernel_rfl,rfl⟩
theorem M1:dn Tryz.prog 77:=⟨_,Tryz.func77,by kernel_rfl,rfl⟩
theorem TD:dn Tryz.prog 78:=⟨_,Tryz.func78,by kernel_rfl,rfl⟩
theorem TE:dn Tryz.prog 79:=⟨_,Tryz.func79,by kernel_rfl,rfl⟩
theorem TF:dn Tryz.prog 80:=⟨_,Tryz.func80,by kernel_rfl,rfl⟩
theorem M3:dn Tryz.prog 83:=⟨_,Tryz.func83,by kernel_rfl,rfl⟩
theorem IZ:dn Tryz.prog 84:=⟨_,Tryz.func84,by kernel_rfl,rfl⟩
theorem TG:dn Tryz.prog 86:=⟨_,Tryz.func86,by kernel_rfl,rfl⟩
theorem Py:dn Tryz.prog 110:=⟨_,Tryz.func110,by kernel_rfl,rfl⟩
theorem Iy:dn Tryz.prog 111:=⟨_,Tryz.func111,by kernel_rfl,rfl⟩
theorem Pz:dn Tryz.prog 112:=⟨_,Tryz.func112,by kernel_rfl,rfl⟩
theorem ui:dn Tryz.prog 113:=⟨_,Tryz.func113,by kernel_rfl,rfl⟩
theorem PA:dn Tryz.prog 114:=⟨_,Tryz.func114,by kernel_rfl,rfl⟩
theorem rb:dn Tryz.prog 115:=⟨_,Tryz.func115,by kernel_rfl,rfl⟩
theorem rh:dn Tryz.prog 116:=⟨_,Tryz.func116,by kernel_rfl,rfl⟩
theorem PB:dn Tryz.prog 117:=⟨_,Tryz.func117,by kernel_rfl,rfl⟩
theorem PC:dn Tryz.prog 118:=⟨_,Tryz.func118,by kernel_rfl,rfl⟩
theorem PD:dn Tryz.prog 119:=⟨_,Tryz.func119,by kernel_rfl,rfl⟩
theorem Iz:dn Tryz.prog 120:=⟨_,Tryz.func120,by kernel_rfl,rfl⟩
theorem PE:dn Tryz.prog 121:=⟨_,Tryz.func121,by kernel_rfl,rfl⟩
theorem PF:dn Tryz.prog 122:=⟨_,Tryz.func122,by kernel_rfl,rfl⟩
theorem PG:dn Tryz.prog 123:=⟨_,Tryz.func123,by kernel_rfl,rfl⟩
theorem PH:dn Tryz.prog 124:=⟨_,Tryz.func124,by kernel_rfl,rfl⟩
theorem IA:dn Tryz.prog 125:=⟨_,Tryz.func125,by kernel_rfl,rfl⟩
theorem PI:dn Tryz.prog 126:=⟨_,Tryz.func126,by kernel_rfl,rfl⟩
theorem PJ:dn Tryz.prog 127:=⟨_,Tryz.func127,by kernel_rfl,rfl⟩
theorem PK:dn Tryz.prog 128:=⟨_,Tryz.func128,by kernel_rfl,rfl⟩
theorem IB:dn Tryz.prog 129:=⟨_,Tryz.func129,by kernel_rfl,rfl⟩
theorem IC:dn Tryz.prog 130:=⟨_,Tryz.func130,by kernel_rfl,rfl⟩
theorem IE:dn Tryz.prog 131:=⟨_,Tryz.func131,by kernel_rfl,rfl⟩
theorem PL:dn Tryz.prog 132:=⟨_,Tryz.func132,by kernel_rfl,rfl⟩
theorem IF:dn Tryz.prog 133:=⟨_,Tryz.func133,by kernel_rfl,rfl⟩
theorem CQ:dn Tryz.prog 134:=⟨_,Tryz.func134,by kernel_rfl,rfl⟩
theorem PM:dn Tryz.prog 135:=⟨_,Tryz.func135,by kernel_rfl,rfl⟩
theorem PN:dn Tryz.prog 136:=⟨_,Tryz.func136,by kernel_rfl,rfl⟩
theorem IG:dn Tryz.prog 137:=⟨_,Tryz.func137,by kernel_rfl,rfl⟩
theorem PO:dn Tryz.prog 138:=⟨_,Tryz.func138,by kernel_rfl,rfl⟩
theorem PQ:dn Tryz.prog 139:=⟨_,Tryz.func139,by kernel_rfl,rfl⟩
theorem IH:dn Tryz.prog 140:=⟨_,Tryz.func140,by kernel_rfl,rfl⟩
theorem II:dn Tryz.prog 141:=⟨_,Tryz.func141,by kernel_rfl,rfl⟩
theorem IJ:dn Tryz.prog 142:=⟨_,Tryz.func142,by kernel_rfl,rfl⟩
theorem IK:dn Tryz.prog 143:=⟨_,Tryz.func143,by kernel_rfl,rfl⟩
theorem IL:dn Tryz.prog 144:=⟨_,Tryz.func144,by kernel_rfl,rfl⟩
theorem IM:dn Tryz.prog 145:=⟨_,Tryz.func145,by kernel_rfl,rfl⟩
theorem PR:dn Tryz.prog 146:=⟨_,Tryz.func146,by kernel_rfl,rfl⟩
theorem PS:dn Tryz.prog 147:=⟨_,Tryz.func147,by kernel_rfl,rfl⟩
theorem IN:dn Tryz.prog 149:=⟨_,Tryz.func149,by kernel_rfl,rfl⟩
theorem PT:dn Tryz.prog 153:=⟨_,Tryz.func153,by kernel_rfl,rfl⟩
theorem PU:dn Tryz.prog 154:=⟨_,Tryz.func154,by kernel_rfl,rfl⟩
theorem PV:dn Tryz.prog 156:=⟨_,Tryz.func156,by kernel_rfl,rfl⟩
theorem CR:dn Tryz.prog 159:=⟨_,Tryz.func159,by kernel_rfl,rfl⟩
theorem pC:dn Tryz.prog 160:=⟨_,Tryz.func160,by kernel_rfl,rfl⟩
theorem PW:dn Tryz.prog 176:=⟨_,Tryz.func176,by kernel_rfl,rfl⟩
theorem PX:dn Tryz.prog 177:=⟨_,Tryz.func177,by kernel_rfl,rfl⟩
theorem PY:dn Tryz.prog 178:=⟨_,Tryz.func178,by kernel_rfl,rfl⟩
theorem PZ:dn Tryz.prog 179:=⟨_,Tryz.func179,by kernel_rfl,rfl⟩
theorem ri:dn Tryz.prog 180:=⟨_,Tryz.func180,by kernel_rfl,rfl⟩
theorem IP:dn Tryz.prog 181:=⟨_,Tryz.func181,by kernel_rfl,rfl⟩
theorem P0:dn Tryz.prog 182:=⟨_,Tryz.func182,by kernel_rfl,rfl⟩
theorem IQ:dn Tryz.prog 183:=⟨_,Tryz.func183,by kernel_rfl,rfl⟩
theorem P1:dn Tryz.prog 184:=⟨_,Tryz.func184,by kernel_rfl,rfl⟩
theorem P2:dn Tryz.prog 185:=⟨_,Tryz.func185,by kernel_rfl,rfl⟩
theorem IS:dn Tryz.prog 186:=⟨_,Tryz.func186,by kernel_rfl,rfl⟩
theorem P3:dn Tryz.prog 187:=⟨_,Tryz.func187,by kernel_rfl,rfl⟩
theorem CS:dn Tryz.prog 188:=⟨_,Tryz.func188,by kernel_rfl,rfl⟩
theorem IT:dn Tryz.prog 189:=⟨_,Tryz.func189,by kernel_rfl,rfl⟩
theorem P4:dn Tryz.prog 190:=⟨_,Tryz.func190,by kernel_rfl,rfl⟩
theorem yr:dn Tryz.prog 191:=⟨_,Tryz.func191,by kernel_rfl,rfl⟩
theorem P5:dn Tryz.prog 192:=⟨_,Tryz.func192,by kernel_rfl,rfl⟩
theorem P6:dn Tryz.prog 193:=⟨_,Tryz.func193,by kernel_rfl,rfl⟩
theorem P7:dn Tryz.prog 194:=⟨_,Tryz.func194,by kernel_rfl,rfl⟩
theorem P8:dn Tryz.prog 198:=⟨_,Tryz.func198,by kernel_rfl,rfl⟩
theorem P9:dn Tryz.prog 199:=⟨_,Tryz.func199,by kernel_rfl,rfl⟩
theorem IU:dn Tryz.prog 200:=⟨_,Tryz.func200,by kernel_rfl,rfl⟩
theorem Qa:dn Tryz.prog 201:=⟨_,Tryz.func201,by kernel_rfl,rfl⟩
theorem Qb:dn Tryz.prog 202:=⟨_,Tryz.func202,by kernel_rfl,rfl⟩
theorem IV:dn Tryz.prog 203:=⟨_,Tryz.func203,by kernel_rfl,rfl⟩
theorem Qc:dn Tryz.prog 210:=⟨_,Tryz.func210,by kernel_rfl,rfl⟩
theorem Qd:dn Tryz.prog 211:=⟨_,Tryz.func211,by kernel_rfl,rfl⟩
theorem Qe:dn Tryz.prog 212:=⟨_,Tryz.func212,by kernel_rfl,rfl⟩
theorem Qf:dn Tryz.prog 213:=⟨_,Tryz.func213,by kernel_rfl,rfl⟩
theorem Qg:dn Tryz.prog 214:=⟨_,Tryz.func214,by kernel_rfl,rfl⟩
theorem Qh:dn Tryz.prog 215:=⟨_,Tryz.func215,by kernel_rfl,rfl⟩
theorem Qi:dn Tryz.prog 218:=⟨_,Tryz.func218,by kernel_rfl,rfl⟩
theorem Qj:dn Tryz.prog 219:=⟨_,Tryz.func219,by kernel_rfl,rfl⟩
theorem IW:dn Tryz.prog 220:=⟨_,Tryz.func220,by kernel_rfl,rfl⟩
theorem Qk:dn Tryz.prog 224:=⟨_,Tryz.func224,by kernel_rfl,rfl⟩
theorem Ql:dn Tryz.prog 225:=⟨_,Tryz.func225,by kernel_rfl,rfl⟩
theorem Qm:dn Tryz.prog 226:=⟨_,Tryz.func226,by kernel_rfl,rfl⟩
end Go.Proofs.YtiinmaihgmfniaaGreat
