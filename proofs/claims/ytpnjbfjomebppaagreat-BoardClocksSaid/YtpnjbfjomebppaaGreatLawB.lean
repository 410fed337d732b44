import Derived.Test.YtpnjbfjomebppaaGreatDecP
open Go.Proofs.Tryz (prog)
open Go.IntKind (u8 u16 i64)
set_option linter.unusedSimpArgs false
open Go Go.S3 Go.Proofs
set_option linter.unusedVariables false
set_option maxRecDepth 100000
namespace Go.Proofs.YtpnjbfjomebppaaGreat
noncomputable section
def ZhN:En:=.tree (Zq (envX prog [(50,ZyS),(97,ZUF),(98,Znl),(99,ZJ3)] [] 31 8) Tryz.f48)
theorem ZiC:Za prog 48 ZhN:=ZD ⟨ZPr,ZZO,ZtW,ZJ2,Tv⟩ Tryz.func48 rfl (by kernel_rfl) Tryz.call48 trivial
def Zbq:En:=.tree (Zq (envX prog [] [] 63 8) Tryz.f197)
theorem Ze6:Za prog 197 Zbq:=ZD trivial Tryz.func197 rfl (by kernel_rfl) Tryz.call197 trivial
def Zbr:En:=.tree (Zq (envX prog [(197,Zbq)] [] 40567299923085334190945185301503 8) Tryz.f131)
theorem Ze7:Za prog 131 Zbr:=ZD ⟨Ze6,Tv⟩ Tryz.func131 rfl (by kernel_rfl) Tryz.call131 trivial
def ZbZ:En:=.tree (Zq (envX prog [] [] 31 8) Tryz.f133)
theorem Zfw:Za prog 133 ZbZ:=ZD trivial Tryz.func133 rfl (by kernel_rfl) Tryz.call133 trivial
def ZK:En:=.tree (Zq (envX prog [] [] 63 8) Tryz.f134)
theorem ZaO:Za prog 134 ZK:=ZD trivial Tryz.func134 rfl (by kernel_rfl) Tryz.call134 trivial
def Zbd:En:=.tree (Zq (envX prog [(120,Zi7),(133,ZbZ),(134,ZK),(144,ZBm)] [] 63 8) Tryz.f132)
theorem Zep:Za prog 132 Zbd:=ZD ⟨Zkw,Zfw,ZaO,ZKO,Tv⟩ Tryz.func132 rfl (by kernel_rfl) Tryz.call132 trivial
def Zbp:En:=.tree (Zq (envX prog [(130,ZVC),(131,Zbr),(132,Zbd),(133,ZbZ),(134,ZK)] [] 45177283517874303 8) Tryz.f75)
theorem Zcn:Za prog 75 Zbp:=ZD ⟨ZZ6,Ze7,Zep,Zfw,ZaO,Tv⟩ Tryz.func75 rfl (by kernel_rfl) Tryz.call75 trivial
def Zaq:En:=.tree (Zq (envX prog [] [] 23 8) Tryz.f201)
theorem ZcP:Za prog 201 Zaq:=ZD trivial Tryz.func201 rfl (by kernel_rfl) Tryz.call201 trivial
def ZbH:En:=.tree (Zq (envX prog [(201,Zaq),(269,Zhs)] [] 4195343 8) Tryz.f200)
theorem Zff:Za prog 200 ZbH:=ZD ⟨ZcP,Zpx,Tv⟩ Tryz.func200 rfl (by kernel_rfl) Tryz.call200 trivial
def Zbt:En:=.tree (Zq (envX prog [(141,Zgy),(198,Zhq),(199,Zpq),(200,ZbH)] [] 63 8) Tryz.f135)
theorem Ze9:Za prog 135 Zbt:=ZD ⟨Zkr,Zpn,ZAP,Zff,Tv⟩ Tryz.func135 rfl (by kernel_rfl) Tryz.call135 trivial
def Zag:En:=.tree (Zq (envX prog [] [] 127 8) Tryz.f204)
theorem Zco:Za prog 204 Zag:=ZD trivial Tryz.func204 rfl (by kernel_rfl) Tryz.call204 trivial
def ZbG:En:=.tree (Zq (envX prog [(201,Zaq),(202,ZjY),(203,Zpr),(204,Zag),(205,ZjQ),(206,Zks)] [] 68720003071 8) Tryz.f137)
theorem Zfe:Za prog 137 ZbG:=ZD ⟨ZcP,Ztv,ZAS,Zco,Ztk,ZtU,Tv⟩ Tryz.func137 rfl (by kernel_rfl) Tryz.call137 trivial
def Zbs:En:=.tree (Zq (envX prog [(143,Zdc),(204,Zag),(207,Zhp),(208,ZhJ)] [] 255 8) Tryz.f140)
theorem Ze8:Za prog 140 Zbs:=ZD ⟨Zgl,Zco,Zpj,ZrA,Tv⟩ Tryz.func140 rfl (by kernel_rfl) Tryz.call140 trivial
def Zbu:En:=.tree (Zq (envX prog [(83,Zdd),(135,Zbt),(136,ZiX),(137,ZbG),(138,Zj2),(139,ZcK),(140,Zbs),(141,Zgy),(142,ZrB),(143,Zdc)] [] 255 8) Tryz.f76)
theorem Zcp:Za prog 76 Zbu:=ZD ⟨Zes,Ze9,ZjW,Zfe,ZtA,ZeN,Ze8,Zkr,ZCr,Zgl,Tv⟩ Tryz.func76 rfl (by kernel_rfl) Tryz.call76 trivial
def Za3:En:=.tree (Zq (envX prog [(120,Zi7),(134,ZK),(144,ZBm)] [] 7 8) Tryz.f77)
theorem Zb0:Za prog 77 Za3:=ZD ⟨Zkw,ZaO,ZKO,Tv⟩ Tryz.func77 rfl (by kernel_rfl) Tryz.call77 trivial
def Z0Z:LS:={n:=58,Sl:=[(4,.fix (A.loc 1 0)),(8,.fix (A.loc 5 0)),(29,.code (So (R.sl Zb8))),(30,.code (So Kc)),(31,.code (So Kc))],Bx:=[[.many (R.Pq Kc (R.Pq rcRG (R.Pq Kc (R.Pq Ka (R.Pq Ka (R.Pq R.bool rcCE))))))],[.many (R.Pq (R.sl ZkZ) (R.Pq (R.sl ZuT) (R.Pq (R.sl ZMj) (R.Pq (R.sl Zu) (R.Pq (R.Pq Zu (R.Pq Kc (R.Pq (R.sl Ka) (R.Pq (RY) (R.Pq Kc R.bool))))) (R.Pq rcCE (R.Pq ZY (R.Pq (R.Pq Kb (R.Pq Ka Kc)) (R.Pq Kc (R.sl (R.Pq Ka Ka)))))))))))],[.code (.int i64),.code (.sl (R.Pq Kb (R.Pq Kb (R.Pq R.bool Kc)))),.code (.int i64),.code (.int u8),.code (.int u8),.code .bool,.code (.sl (R.Pq Kb Ka))],[.code (.int i64),.code (.int u8),.code (.int u8),.code (.int u8),.code (.int u8),.code (.int u8),.code (.int u8),.code (.int u8),.code .bool,.code .bool,.code .bool,.code .bool,.code .bool,.code .bool,.code .bool,.code (.int u16),.code (.int u16),.code .bool,.code .bool,.code .bool,.code (.int u8),.code .bool,.code .bool,.code .bool,.code .bool,.code .bool,.code .bool,.code .bool,.code (.int i64),.code (.sl Ka),.code (.int i64),.code (.int u16),.code (.int u8),.code (.int i64),.code (.int i64),.code .bool,.code (.sl (R.Pq Kb Ka)),.code (.int i64),.code .bool,.code .bool,.code .bool,.code .bool,.code (.int u8),.code (.int u8),.code .bool,.code .bool,.code .bool,.code .bool,.code .bool,.code (.int u8),.code (.int u8),.code (.int u8),.code (.int u8),.code (.int i64),.code (.int i64),.code (.int i64),.code .bool,.code (.int u16),.code (.int u8),.code (.int i64),.code (.int i64),.junk],[.many (R.Pq (R.Pq Zu (R.Pq Kc (R.Pq (R.sl Ka) (R.Pq (RY) (R.Pq Kc R.bool))))) (R.Pq rcCE (R.Pq ZY (R.Pq (R.Pq Kb (R.Pq Ka Kc)) (R.Pq Kc (R.sl (R.Pq Ka Ka)))))))],[.many (R.Pq Zu (R.Pq Kc (R.Pq (R.sl Ka) (R.Pq (RY) (R.Pq Kc R.bool))))),.code rcCE,.many ZY,.many (R.Pq Kb (R.Pq Ka Kc)),.code Kc,.tip 0,.many (R.Pq Kc (R.Pq rcRG (R.Pq Kc (R.Pq Ka (R.Pq Ka (R.Pq R.bool rcCE)))))),.tip 1,.tip 2,.tip 3,.tip 4,.many (R.Pq (R.Pq Zu (R.Pq Kc (R.Pq (R.sl Ka) (R.Pq (RY) (R.Pq Kc R.bool))))) (R.Pq rcCE (R.Pq ZY (R.Pq (R.Pq Kb (R.Pq Ka Kc)) (R.Pq Kc (R.sl (R.Pq Ka Ka))))))),.many Zu]],Sg:=[⟨R.Pq Ka Ka,194,false⟩,⟨R.Pq Kc (R.Pq Kb (R.Pq Ka (R.Pq R.bool (R.Pq R.bool (R.Pq R.bool (R.Pq R.bool (R.Pq R.bool ZuS))))))),119,false⟩,⟨R.Pq Kc (R.Pq (RY) (R.Pq Kc (R.Pq Kc (R.Pq R.bool R.bool)))),70,false⟩,⟨R.Pq Kc (R.Pq Kc (R.Pq (R.sl Ka) (R.Pq ZuS (R.Pq R.bool (R.Pq R.bool (R.Pq R.bool (R.Pq R.bool (R.Pq Kb Ka)))))))),77,false⟩,⟨R.Pq Kc (R.Pq Zfz (R.Pq R.bool (R.Pq R.bool (R.Pq R.bool (R.Pq Ka rcF7))))),38,false⟩]}
def ZyU (a:List INPT×Int×Int×BRDT×RUNT×Int×List (QT6)×Int×Int×Int×Bool×List (Int×Int)×Int×Int×Int×Int×Int×Int×Int×Int×Bool×Bool×Bool×Bool×Bool×Bool×Bool×Int×Int×Bool×Bool×Bool×Int×Bool×Bool×Bool×Bool×Bool×Bool×Bool×Int×List Int×Int×Int×Int×Int×Int×Bool×List (Int×Int)×Int×Bool×Bool×Bool×Bool×Int×Int×Bool×Bool×Bool×Bool×Bool×Int×Int×Int×Int×Int×Int×Int×Bool×Int×Int×Int×Int×SYST×CORT×List (Int×Int)×PICT×(QT4)×Int×BRDT×SYST×TC×List (Int×Int)×List PINT×List ITMT×List EVTT×List TC×PUnit):RT (Option (Go1 (List INPT×Int×Int×BRDT×RUNT×Int×List (QT6)×Int×Int×Int×Bool×List (Int×Int)×Int×Int×Int×Int×Int×Int×Int×Int×Bool×Bool×Bool×Bool×Bool×Bool×Bool×Int×Int×Bool×Bool×Bool×Int×Bool×Bool×Bool×Bool×Bool×Bool×Bool×Int×List Int×Int×Int×Int×Int×Int×Bool×List (Int×Int)×Int×Bool×Bool×Bool×Bool×Int×Int×Bool×Bool×Bool×Bool×Bool×Int×Int×Int×Int×Int×Int×Int×Bool×Int×Int×Int×Int×SYST×CORT×List (Int×Int)×PICT×(QT4)×Int×BRDT×SYST×TC×List (Int×Int)×List PINT×List ITMT×List EVTT×List TC×PUnit))):=
 let x1:INPT:=R.get Zb8 a.1 a.2.2.1
 let x2:=x1.1
 let x3:=a.2.2.2.2.2.2.2.2.2.2.2.2.2
 let x4:=x3.2
 let x5:=x4.2
 let x6:=x5.2
 let x7:=x6.2
 let x8:=x7.2
 let x9:=x8.2
 let x10:=x9.2
 let x11:=x10.2
 let x12:=x11.2
 let x13:=x12.2
 let x14:=x13.2
 let x15:=x14.2
 let x16:=x15.2
 let x17:=x16.2
 let x18:=x17.2
 let x19:=x18.2
 let x20:=x19.2
 let x21:=x20.2
 let x22:=x21.2
 let x23:=x22.2
 let x24:=x23.2
 let x25:=x24.2
 let x26:=x25.2
 let x27:=x26.2
 let x28:=x27.2
 let x29:=x28.2
 let x30:=x29.2
 let x31:=x30.2
 let x32:=x31.2
 let x33:=x32.2
 let x34:=x33.2
 let x35:=x34.2
 let x36:=x35.2
 let x37:=x36.2
 let x38:=x37.2
 let x39:=x38.2
 let x40:=x39.2
 let x41:=x40.2
 let x42:=x41.2
 let x43:=x42.2
 let x44:=x43.2
 let x45:=x44.2
 let x46:=x45.2
 let x47:=x46.2
 let x48:=x47.2
 let x49:=x48.2
 let x50:=x49.2
 let x51:=x50.2
 let x52:=x51.2
 let x53:=x52.2
 let x54:=x53.2
 let x55:=x54.2
 let x56:=x55.2
 let x57:=x56.2
 let x58:=x57.2
 let x59:=x58.2
 let x60:=x59.2
 let x61:=x60.2
 let x62:=x61.2
 let x63:=x62.2
 let x64:=x63.2
 let x65:=x64.1
 let x66:=x65.2
 let x67:=x66.2
 let x68:=x67.2
 let x69:=x68.1
 let x70:=x69.1
 let x71:=x70==1
 let x72:=x70==2
 let x73:=x70==3
 let x74:=x70==4
 let x75:=bif x71 then x71 else bif x72 then x72 else bif x73 then x73 else bif x74 then x74 else x70==5
 let x76:= !x75
 let x77:=x64.2
 let x78:=x77.2
 let x79:=x78.2
 let x80:=x79.2
 let x81:=x80.2
 let x82:=x81.1
 let x83:=x82.2
 let x84:=x83.1
 let x85:=smG x84
 let x86:= !x2||(x76||x85)
 let x87:= !x86
 let x88:=x1.2
 let x89:=x88.2
 let x90:=x89.1
 let x91:= !x90
 let x92:=x91&&ZbD x65==3
 let x93:=x92&&Zbi x70
 let x94:=x77.1
 let x95:=x85&&smC x94
 let x96:= !x93||(x76||x95)
 let x97:= !x96
 let x98:=Zms x65
 let x99:= !x98
 let x100:=x92&&ZcW x70
 let x101:= !x100
 let x102:=x70 !=7
 let x103:= !x102||x95
 let x104:=x81.2
 let x105:=x104.2
 let x106:=x105.2
 let x107:=x106.1
 let x108:=x69.2
 let x109:=x108.1
 let x110:=u8.wrap x109
 let x111:=x108.2.1
 let x112:List (Int×Int):=x107++[(x110,x111)]
 let x113:=x101||(!x103||(x102||Nat.ble (Le x112) most))
 let x114:= !x113
 let p2:=x114::x99::x97::x87::[]
 let x115:=x101||x103
 let x116:= !x115
 let p9:=x116::p2
 let x117:=x80.1
 let x118:Int:=bif x68.2.1==7 then i64.wrap (x117+1) else 0
 let x119:=x83.2
 let x120:=x119.1
 let x121:Int:=if 100<x120 then 100 else x120
 let x122:=x79.1
 let x123:=x89.2
 let x124:=x123.2
 let x125:=x124.2
 let x126:=x125.2
 let x127:=x126.2
 let x128:=x119.2
 let x129:=x128.2
 let x130:=x129.2.1
 let x131:=x127.2
 let x132:=x131.1
 let x133:=x78.1
 let x134:=ZaL x133 x132
 let x135:LINT:=(x2&&bif x75 then decide (x118>=Zey x84 x109) else bif x70==6||x70==7 then decide (x118>=if x121>0 then x121 else 0) else decide (x118>=0),x88.1||ZM x122,x90,x123.1,x124.1,x125.1,x126.1,x127.1,bif x130 then andI u8 x132 1==1 else vInt x134)
 let x136:=x70==8||x70==9
 let x137:= !x130
 let x138:Int:=bif x130 then x133.1 else x134.1
 let x139:=x133.2
 let x140:=x134.2
 let x141:=bif x130 then x139.1 else x140.1
 let x142:=x139.2
 let x143:=x140.2
 let x144:=bif x130 then x142.1 else x143.1
 let x145:=x142.2
 let x146:=x143.2
 let x147:=bif x130 then x145.1 else x146.1
 let x148:=x145.2
 let x149:=x146.2
 let x150:=bif x130 then x148.1 else x149.1
 let x151:=x148.2
 let x152:=x149.2
 let x153:Int:=bif x130 then x151.1 else x152.1
 let x154:=x151.2
 let x155:=x152.2
 let x156:Int:=bif x130 then x154.1 else x155.1
 let x157:=x154.2
 let x158:=x155.2
 let x159:=bif x130 then x157.1 else x158.1
 let x160:=x157.2
 let x161:=x158.2
 let x162:=bif x130 then x160.1 else x161.1
 let x163:=x160.2
 let x164:=x161.2
 let x165:=bif x130 then x163.1 else x164.1
 let x166:=x163.2
 let x167:=x164.2
 let x168:=bif x130 then x166.1 else x167.1
 let x169:=x166.2
 let x170:=x167.2
 let x171:=bif x130 then x169.1 else x170.1
 let x172:=x169.2
 let x173:=x170.2
 let x174:Int:=bif x130 then x172.1 else x173.1
 let x175:=x172.2
 let x176:=x173.2
 let x177:Int:=bif x130 then x175.1 else x176.1
 let x178:=x175.2
 let x179:=x176.2
 let x180:Int:=bif x130 then x178.1 else x179.1
 let x181:=x178.2
 let x182:=x179.2
 let x183:Int:=bif x130 then x181.1 else x182.1
 let x184:=x181.2
 let x185:=x182.2
 let x186:Int:=bif x130 then x184.1 else x185.1
 let x187:=x184.2
 let x188:=x185.2
 let x189:Int:=bif x130 then x187.1 else x188.1
 let x190:=x187.2
 let x191:=x188.2
 let x192:Int:=bif x130 then x190.1 else x191.1
 let x193:=bif x130 then x190.2 else x191.2
 let x194:PICT:=(x138,x141,x144,x147,x150,x153,x156,x159,x162,x165,x168,x171,x174,x177,x180,x183,x186,x189,x192,x193)
 let x195:=vAck x194
 let x196:=x131.2
 let x197:=u8.wrap (x110-x128.1)
 let x198:=x137&&decide (x197<2)
 let x199:=x197==1
 let x200:=bif x137 then x199 else x199
 let x201:=ZkJ x194 x200
 let x202:=u8.wrap (x110-x129.1)
 let x203:=decide (x202<4)
 let x204:=i64.wrap x202
 let x205:Int:=bif x93 then bif x75 then Zfn x84 x94 x109 else bif x136 then bif x137 then x195.2 else x196 else bif x198 then x201.2 else bif x203 then Zis x122 x204 else x196 else 0
 let x206:=clkX x65 x135 x205
 let x207:=x206.2
 let x208:=x122.1
 let x209:=ZeA x122 x204 x111
 let x210:Int:=bif x100 then bif x102 then x208 else bif x198 then x208 else bif x203 then x209.1 else x208 else x208
 let x211:=x122.2
 let x212:=x211.1
 let x213:=x209.2
 let x214:Int:=bif x100 then bif x102 then x212 else bif x198 then x212 else bif x203 then x213.1 else x212 else x212
 let x215:=x211.2
 let x216:Int:=bif x100 then bif x102 then x215 else bif x198 then x215 else bif x203 then x213.2 else x215 else x215
 let x217:QT4:=(x210,x214,x216)
 let x218:=x207.2.2.2.2.2.2.2.2.2.2.2.2.2.2.2.1&&ZM x217
 let x219:List (Int×Int):=bif x100 then bif x102 then ZaV x84 x94 x109 x111 else x94 else x94
 let x220:= !x218||x85&&smC x219
 let x221:= !x220
 let p17:=x221::p9
 let x222:=x106.2
 let x223:=x222.1
 let x224:List PINT:=x223++[x207]
 let x225:=Nat.ble (Le x224) most
 let x226:= !x225
 let p25:=x226::p17
 let x227:=x207.1
 let x228:=x227 !=10
 let x229:= !x228||x98&&x91
 let x230:= !x229
 let p28:=x230::p25
 let x231:=x227==1
 let x232:=x222.2
 let x233:=x232.1
 let x234:=ZyO x65 x135 x205
 let x235:=x234.2
 let x236:=x235.2
 let x237:=x236.2
 let x238:=x237.1
 let x239:=x238.2
 let x240:=x239.2
 let x241:QT12:=(bif x228 then x238.1 else 0,bif x228 then x239.1 else 0,bif x228 then x240.1 else 0,bif x228 then x240.2 else 0)
 let x242:=x65.1.2
 let x243:=x242.2
 let x244:=x243.1
 let x245:=x243.2.2.2.2
 let x246:=x245.2
 let x247:=x246.2
 let x248:=x247.2
 let x249:=x248.2.2.2
 let x250:Int×Int×Bool×Bool:=(0,1,x244,x249)
 let x251:List ITMT:=x233++[(1,x241,x250)]
 let x252:= !x231||Nat.ble (Le x251) most
 let x253:= !x252
 let x254:=x227==7
 let x255:= !x254
 let x256:Nat:=Le x233
 let x257:=iN x256
 let x258:=i64.wrap (x257-1)
 let x259:=Zg x258 x256
 let x260:=x231||(x255||(!x259||x259))
 let x261:= !x260
 let x262:=x231||(x255||x259)
 let x263:= !x262
 let x264:=x227==2
 let x265:=x227==3
 let x266:=x227==4
 let x267:=x227==5
 let x268:=bif x264 then x264 else bif x265 then x265 else bif x266 then x266 else bif x267 then x267 else x227==6
 let x269:= !x268
 let x270:=x231||(x254||(x269||x259))
 let x271:= !x270
 let p6:=x271::x263::x261::x253::[]
 let x272:ITMT:=R.get ZuT x233 x258
 let x273:=x272.1
 let x274:=x272.2
 let x275:=x274.1
 let x276:=x274.2
 let x277:=x276.1
 let x278:=x276.2
 let x279:=x278.2
 let x280:=setI x233 x258 (x273,x275,x277,x227,x279)
 let x281:=x231||(x254||(x269||Zg x258 (Le x280)))
 let x282:= !x281
 let p11:=x282::p6
 let x283:=x227==8
 let x284:= !x283
 let p1:=x284::x268::x254::x231::[]
 let x285:=decide (x257>0)
 let x286:= !x285
 let x287:=x286||x259
 let x288:= !x287
 let p15:=x285::x288::p1
 let x289:=x279.1==x244&&x279.2==x249
 let x290:=x273==2&&x289
 let p20:=x290::x286::x288::p1
 let x291:TY×Int×Int×Bool×Bool:=((0,0,0,0),x250)
 let x292:List ITMT:=x233++[(2,x291)]
 let x293:=Nat.ble (Le x292) most
 let x294:=orR p20 x293
 let x295:= !x294
 let p16:=x295::p11
 let x296:=orR p15 x293
 let x297:= !x296
 let p24:=x297::p16
 let x298:=orR p1 x287
 let x299:= !x298
 let p26:=x299::p24
 let x300:=x227==9
 let x301:= !x300
 let p12:=x301::x283::x268::x254::x231::[]
 let p21:=x285::x288::p12
 let x302:=x273==3&&x289
 let p31:=x302::x286::x288::p12
 let x303:List ITMT:=x233++[(3,(0,x242.1.2.2.2.2.2.2.2.2.2,0,0),x250)]
 let x304:=Nat.ble (Le x303) most
 let x305:=orR p31 x304
 let x306:= !x305
 let p34:=x306::p26
 let x307:=orR p21 x304
 let x308:= !x307
 let p40:=x308::p34
 let x309:=orR p12 x287
 let x310:= !x309
 let p44:=x310::p40
 let x311:=x227==10
 let x312:= !x311
 let p32:=x285::x288::x312::x300::x283::x268::x254::x231::[]
 let x313:=x273==4&&x289
 let p33:=x313::x286::x288::x312::x300::x283::x268::x254::x231::[]
 let x314:List ITMT:=x233++[(4,x291)]
 let x315:=Nat.ble (Le x314) most
 let x316:=orR p33 x315
 let x317:= !x316
 let p48:=x317::p44
 let x318:=orR p32 x315
 let p64:=x312::x300::x283::x268::x254::x231::(!x318)::p48
 let x319:=orR p64 x287
 let x320:= !x319
 let x321:=orR p48 x318
 let x322:= !x321
 let x323:=orR p44 x316
 let x324:= !x323
 let x325:=orR p40 x309
 let x326:= !x325
 let p4:=x326::x324::x322::x320::[]
 let x327:=orR p34 x307
 let x328:= !x327
 let p10:=x328::p4
 let x329:=orR p26 x305
 let x330:= !x329
 let p18:=x330::p10
 let x331:=orR p24 x298
 let x332:= !x331
 let p23:=x332::p18
 let x333:=orR p16 x296
 let x334:= !x333
 let p30:=x334::p23
 let x335:=orR p11 x294
 let x336:= !x335
 let p35:=x336::p30
 let x337:=orR p6 x281
 let x338:= !x337
 let p39:=x338::p35
 let x339:=x253||(x261||(x263||x270))
 let x340:= !x339
 let p43:=x340::p39
 let x341:=x253||(x261||x262)
 let x342:= !x341
 let p46:=x342::p43
 let x343:=x253||x260
 let p52:=(!x343)::p46
 let x344:=orR p52 x252
 let x345:= !x344
 let p37:=x345::p28
 let x346:=orR p46 x343
 let x347:= !x346
 let p38:=x347::p37
 let x348:=orR p43 x341
 let x349:= !x348
 let p45:=x349::p38
 let x350:=orR p39 x339
 let x351:= !x350
 let p49:=x351::p45
 let x352:=orR p35 x337
 let x353:= !x352
 let p50:=x353::p49
 let x354:=orR p30 x335
 let x355:= !x354
 let p53:=x355::p50
 let x356:=orR p23 x333
 let x357:= !x356
 let p55:=x357::p53
 let x358:=orR p18 x331
 let x359:= !x358
 let p57:=x359::p55
 let x360:=orR p10 x329
 let x361:= !x360
 let p60:=x361::p57
 let x362:=orR p4 x327
 let x363:= !x362
 let p62:=x363::p60
 let x364:=x320||(x322||(x324||x325))
 let x365:= !x364
 let p65:=x365::p62
 let x366:=x320||(x322||x323)
 let x367:= !x366
 let p67:=x367::p65
 let x368:=x320||x321
 let x369:= !x368
 let p68:=x369::p67
 let p70:=x320::p68
 let x370:=ZZ3 x65
 let x371:= !x370
 let x372:=x67.1
 let x373:=x371||Nat.ble (Le x372) most
 let x374:= !x373
 let x375:=x232.2
 let x376:=x375.1
 let x377:=x66.1
 let x378:QT26:=(x135,x246.1,x245.1,x248.1,x247.1,0,0)
 let x379:List EVTT:=x376++[(6,x377,x372,x378)]
 let x380:=Nat.ble (Le x379) most
 let x381:=x375.2.1
 let x382:=x105.1
 let x383:List TC:=x381++[x382]
 let x384:=x371||(!x380||Nat.ble (Le x383) most)
 let x385:= !x384
 let x386:=x371||x380
 let x387:= !x386
 let p5:=x387::x385::x374::x312::[]
 let x388:List EVTT:=(bif x370 then x379 else x376)++[(4,0,[],x378)]
 let x389:=Nat.ble (Le x388) most
 let x390:=x206.1
 let x391:=x390.1
 let x392:List TC:=(bif x370 then x383 else x381)++[x391]
 let x393:= !x389||Nat.ble (Le x392) most
 let p13:=(!x393)::p5
 let x394:=orR p13 x389
 let x395:= !x394
 let x396:=orR p5 x393
 let x397:= !x396
 let x398:=x312||(x374||(x385||x386))
 let x399:= !x398
 let x400:=x312||(x374||x384)
 let x401:= !x400
 let p3:=x401::x399::x397::x395::[]
 let x402:=x312||x373
 let x403:= !x402
 let p8:=x403::p3
 let x404:=x228&&x234.1
 let x405:= !x404
 let x406:=x237.2.2.2.2.2.2.2
 let x407:=x406.2
 let x408:=x407.2
 let x409:List EVTT:=x376++[(bif x377==0 then 1 else bif x377==5 then 2 else 3,x377,bif x228 then x236.1 else [],x135,x228&&x407.1,x228&&x406.1,x228&&x408.2.1,x228&&x408.1,0,0)]
 let x410:=Nat.ble (Le x409) most
 let x411:=x235.1
 let x412:Int:=bif x228 then x411.1 else 0
 let x413:=x411.2
 let x414:=x413.1
 let x415:Int:=bif x228 then x414.1 else 0
 let x416:=x414.2
 let x417:Int:=bif x228 then x416.1 else 0
 let x418:=x416.2
 let x419:Int:=bif x228 then x418.1 else 0
 let x420:=x418.2
 let x421:Int:=bif x228 then x420.1 else 0
 let x422:=x420.2
 let x423:Int:=bif x228 then x422.1 else 0
 let x424:=x422.2
 let x425:Int:=bif x228 then x424.1 else 0
 let x426:=x424.2
 let x427:Int:=bif x228 then x426.1 else 0
 let x428:=x426.2
 let x429:=x428.1
 let x430:=x228&&x429.1
 let x431:=x429.2
 let x432:=x228&&x431.1
 let x433:=x431.2
 let x434:=x228&&x433.1
 let x435:=x433.2
 let x436:=x228&&x435.1
 let x437:=x435.2
 let x438:=x228&&x437.1
 let x439:=x437.2
 let x440:=x228&&x439.1
 let x441:=x228&&x439.2
 let x442:=x428.2
 let x443:Int:=bif x228 then x442.1 else 0
 let x444:Int:=bif x228 then x442.2 else 0
 let x445:=x413.2
 let x446:=x228&&x445.1
 let x447:=x445.2
 let x448:=x228&&x447.1
 let x449:=x447.2
 let x450:=x228&&x449.1
 let x451:=x449.2
 let x452:Int:=bif x228 then x451.1 else 0
 let x453:=x451.2
 let x454:=x228&&x453.1
 let x455:=x453.2
 let x456:=x228&&x455.1
 let x457:=x455.2
 let x458:=x228&&x457.1
 let x459:=x457.2
 let x460:=x228&&x459.1
 let x461:=x459.2
 let x462:=x228&&x461.1
 let x463:=x461.2
 let x464:=x228&&x463.1
 let x465:=x228&&x463.2
 let x466:List TC:=x381++[(x412,(x415,x417,x419,x421,x423,x425,x427,(x430,x432,x434,x436,x438,x440,x441),x443,x444),x446,x448,x450,x452,x454,x456,x458,x460,x462,x464,x465)]
 let x467:=x311||(x405||(!x410||Nat.ble (Le x466) most))
 let p27:=x405::x311::(!x467)::p8
 let x468:=orR p27 x410
 let x469:= !x468
 let p72:=x469::p70
 let x470:=orR p8 x467
 let x471:= !x470
 let p75:=x471::p72
 let x472:=orR p3 x402
 let x473:= !x472
 let p77:=x473::p75
 let x474:=x395||(x397||(x399||x400))
 let x475:= !x474
 let p78:=x475::p77
 let x476:=x395||(x397||x398)
 let x477:= !x476
 let p80:=x477::p78
 let x478:=x395||x396
 let x479:= !x478
 let p83:=x479::p80
 let p84:=x395::p83
 let x480:=Zcb x217
 let x481:=x480.2
 let x482:=x218&&x481.2
 let x483:= !x482
 let x484:List EVTT:=bif x311 then x388 else bif x404 then x409 else x376
 let x485:=x481.1
 let x486:=x485.1
 let x487:=x485.2
 let x488:List EVTT:=x484++[(5,0,[],(false,false,false,false,false,false,false,false,false),false,false,false,false,bif x218 then x486 else 0,bif x218 then x487 else 0)]
 let x489:=Nat.ble (Le x488) most
 let x490:List TC:=bif x311 then x392 else bif x404 then x466 else x381
 let x491:Int:=bif x311 then x391.1 else bif x404 then x412 else x382.1
 let x492:=x391.2
 let x493:=x492.1
 let x494:=x382.2
 let x495:=x494.1
 let x496:Int:=bif x311 then x493.1 else bif x404 then x415 else x495.1
 let x497:=x493.2
 let x498:=x495.2
 let x499:Int:=bif x311 then x497.1 else bif x404 then x417 else x498.1
 let x500:=x497.2
 let x501:=x498.2
 let x502:Int:=bif x311 then x500.1 else bif x404 then x419 else x501.1
 let x503:=x500.2
 let x504:=x501.2
 let x505:Int:=bif x311 then x503.1 else bif x404 then x421 else x504.1
 let x506:=x503.2
 let x507:=x504.2
 let x508:Int:=bif x311 then x506.1 else bif x404 then x423 else x507.1
 let x509:=x506.2
 let x510:=x507.2
 let x511:Int:=bif x311 then x509.1 else bif x404 then x425 else x510.1
 let x512:=x509.2
 let x513:=x510.2
 let x514:Int:=bif x311 then x512.1 else bif x404 then x427 else x513.1
 let x515:=x512.2
 let x516:=x515.1
 let x517:=x513.2
 let x518:=x517.1
 let x519:=bif x311 then x516.1 else bif x404 then x430 else x518.1
 let x520:=x516.2
 let x521:=x518.2
 let x522:=bif x311 then x520.1 else bif x404 then x432 else x521.1
 let x523:=x520.2
 let x524:=x521.2
 let x525:=bif x311 then x523.1 else bif x404 then x434 else x524.1
 let x526:=x523.2
 let x527:=x524.2
 let x528:=bif x311 then x526.1 else bif x404 then x436 else x527.1
 let x529:=x526.2
 let x530:=x527.2
 let x531:=bif x311 then x529.1 else bif x404 then x438 else x530.1
 let x532:=x529.2
 let x533:=x530.2
 let x534:=bif x311 then x532.1 else bif x404 then x440 else x533.1
 let x535:=bif x311 then x532.2 else bif x404 then x441 else x533.2
 let x536:=x515.2
 let x537:=x517.2
 let x538:Int:=bif x311 then x536.1 else bif x404 then x443 else x537.1
 let x539:Int:=bif x311 then x536.2 else bif x404 then x444 else x537.2
 let x540:=x492.2
 let x541:=x494.2
 let x542:=bif x311 then x540.1 else bif x404 then x446 else x541.1
 let x543:=x540.2
 let x544:=x541.2
 let x545:=bif x311 then x543.1 else bif x404 then x448 else x544.1
 let x546:=x543.2
 let x547:=x544.2
 let x548:=bif x311 then x546.1 else bif x404 then x450 else x547.1
 let x549:=x546.2
 let x550:=x547.2
 let x551:Int:=bif x311 then x549.1 else bif x404 then x452 else x550.1
 let x552:=x549.2
 let x553:=x550.2
 let x554:=bif x311 then x552.1 else bif x404 then x454 else x553.1
 let x555:=x552.2
 let x556:=x553.2
 let x557:=bif x311 then x555.1 else bif x404 then x456 else x556.1
 let x558:=x555.2
 let x559:=x556.2
 let x560:=bif x311 then x558.1 else bif x404 then x458 else x559.1
 let x561:=x558.2
 let x562:=x559.2
 let x563:=bif x311 then x561.1 else bif x404 then x460 else x562.1
 let x564:=x561.2
 let x565:=x562.2
 let x566:=bif x311 then x564.1 else bif x404 then x462 else x565.1
 let x567:=x564.2
 let x568:=x565.2
 let x569:=bif x311 then x567.1 else bif x404 then x464 else x568.1
 let x570:=bif x311 then x567.2 else bif x404 then x465 else x568.2
 let x571:List TC:=x490++[(x491,(x496,x499,x502,x505,x508,x511,x514,(x519,x522,x525,x528,x531,x534,x535),x538,x539),x542,x545,x548,x551,x554,x557,x560,x563,x566,x569,x570)]
 let x572:=x483||(!x489||Nat.ble (Le x571) most)
 let p88:=x483::(!x572)::p84
 let x573:=orR p88 x489
 let x574:= !x573
 let x575:=orR p84 x572
 let x576:= !x575
 let x577:=orR p83 x394
 let x578:= !x577
 let p7:=x578::x576::x574::(!Zg a.2.2.1 (Le a.1))::[]
 let x579:=orR p80 x478
 let x580:= !x579
 let p14:=x580::p7
 let x581:=orR p78 x476
 let x582:= !x581
 let p19:=x582::p14
 let x583:=orR p77 x474
 let x584:= !x583
 let p22:=x584::p19
 let x585:=orR p75 x472
 let x586:= !x585
 let p29:=x586::p22
 let x587:=orR p72 x470
 let x588:= !x587
 let p36:=x588::p29
 let x589:=orR p70 x468
 let x590:= !x589
 let p41:=x590::p36
 let x591:=orR p68 x319
 let x592:= !x591
 let p42:=x592::p41
 let x593:=orR p67 x368
 let x594:= !x593
 let p47:=x594::p42
 let x595:=orR p65 x366
 let x596:= !x595
 let p51:=x596::p47
 let x597:=orR p62 x364
 let x598:= !x597
 let p54:=x598::p51
 let x599:=orR p60 x362
 let x600:= !x599
 let p56:=x600::p54
 let x601:=orR p57 x360
 let x602:= !x601
 let p58:=x602::p56
 let x603:=orR p55 x358
 let x604:= !x603
 let p59:=x604::p58
 let x605:=orR p53 x356
 let x606:= !x605
 let p61:=x606::p59
 let x607:=orR p50 x354
 let x608:= !x607
 let p63:=x608::p61
 let x609:=orR p49 x352
 let x610:= !x609
 let p66:=x610::p63
 let x611:=orR p45 x350
 let x612:= !x611
 let p69:=x612::p66
 let x613:=orR p38 x348
 let x614:= !x613
 let p71:=x614::p69
 let x615:=orR p37 x346
 let x616:= !x615
 let p73:=x616::p71
 let x617:=orR p28 x344
 let x618:= !x617
 let p74:=x618::p73
 let x619:=orR p25 x229
 let x620:= !x619
 let p76:=x620::p74
 let x621:=orR p17 x225
 let x622:= !x621
 let p79:=x622::p76
 let x623:=orR p9 x220
 let x624:= !x623
 let p81:=x624::p79
 let x625:=orR p2 x115
 let x626:= !x625
 let p82:=x626::p81
 let x627:=x87||(x97||(x99||x113))
 let x628:= !x627
 let p85:=x628::p82
 let x629:=x87||(x97||x98)
 let x630:= !x629
 let p86:=x630::p85
 let x631:=x87||x96
 let p87:=(!x631)::p86
 let x632:=a.2.2.2.2.2.2.2.2.2.2.2.2.1
 let x633:=x3.1
 let x634:=x4.1
 let x635:=x5.1
 let x636:=x6.1
 let x637:=x7.1
 let x638:=x8.1
 let x639:=x9.1
 let x640:=x10.1
 let x641:=x11.1
 let x642:=x12.1
 let x643:=x13.1
 let x644:=x14.1
 let x645:=x15.1
 let x646:=x16.1
 let x647:=x17.1
 let x648:=x18.1
 let x649:=x19.1
 let x650:=x20.1
 let x651:=x21.1
 let x652:=x22.1
 let x653:=x23.1
 let x654:=x24.1
 let x655:=x25.1
 let x656:=x26.1
 let x657:=x27.1
 let x658:=x28.1
 let x659:=x29.1
 let x660:=x30.1
 let x661:=x31.1
 let x662:=x32.1
 let x663:=x33.1
 let x664:=x34.1
 let x665:=x35.1
 let x666:=x36.1
 let x667:=x37.1
 let x668:=x38.1
 let x669:=x39.1
 let x670:=x40.1
 let x671:=x41.1
 let x672:=x42.1
 let x673:=x43.1
 let x674:=x44.1
 let x675:=x45.1
 let x676:=x46.1
 let x677:=x47.1
 let x678:=x48.1
 let x679:=x49.1
 let x680:=x50.1
 let x681:=x51.1
 let x682:=x52.1
 let x683:=x53.1
 let x684:=x54.1
 let x685:=x55.1
 let x686:=x56.1
 let x687:=x57.1
 let x688:=x58.1
 let x689:=x59.1
 let x690:=x60.1
 let x691:=x61.1
 let x692:=x62.1
 let x693:=x63.1
 let x694:=x195.1
 let x695:=x201.1
 let x696:Int:=bif x93 then bif x75 then x138 else bif x136 then bif x137 then x694.1 else x138 else bif x198 then x695.1 else x138 else x138
 let x697:=x694.2
 let x698:=x695.2
 let x699:=bif x93 then bif x75 then x141 else bif x136 then bif x137 then x697.1 else x141 else bif x198 then x698.1 else x141 else x141
 let x700:=x697.2
 let x701:=x698.2
 let x702:=bif x93 then bif x75 then x144 else bif x136 then bif x137 then x700.1 else x144 else bif x198 then x701.1 else x144 else x144
 let x703:=x700.2
 let x704:=x701.2
 let x705:=bif x93 then bif x75 then x147 else bif x136 then bif x137 then x703.1 else x147 else bif x198 then x704.1 else x147 else x147
 let x706:=x703.2
 let x707:=x704.2
 let x708:=bif x93 then bif x75 then x150 else bif x136 then bif x137 then x706.1 else x150 else bif x198 then x707.1 else x150 else x150
 let x709:=x706.2
 let x710:=x707.2
 let x711:Int:=bif x93 then bif x75 then x153 else bif x136 then bif x137 then x709.1 else x153 else bif x198 then x710.1 else x153 else x153
 let x712:=x709.2
 let x713:=x710.2
 let x714:Int:=bif x93 then bif x75 then x156 else bif x136 then bif x137 then x712.1 else x156 else bif x198 then x713.1 else x156 else x156
 let x715:=x712.2
 let x716:=x713.2
 let x717:=bif x93 then bif x75 then x159 else bif x136 then bif x137 then x715.1 else x159 else bif x198 then x716.1 else x159 else x159
 let x718:=x715.2
 let x719:=x716.2
 let x720:=bif x93 then bif x75 then x162 else bif x136 then bif x137 then x718.1 else x162 else bif x198 then x719.1 else x162 else x162
 let x721:=x718.2
 let x722:=x719.2
 let x723:=bif x93 then bif x75 then x165 else bif x136 then bif x137 then x721.1 else x165 else bif x198 then x722.1 else x165 else x165
 let x724:=x721.2
 let x725:=x722.2
 let x726:=bif x93 then bif x75 then x168 else bif x136 then bif x137 then x724.1 else x168 else bif x198 then x725.1 else x168 else x168
 let x727:=x724.2
 let x728:=x725.2
 let x729:=bif x93 then bif x75 then x171 else bif x136 then bif x137 then x727.1 else x171 else bif x198 then x728.1 else x171 else x171
 let x730:=x727.2
 let x731:=x728.2
 let x732:Int:=bif x93 then bif x75 then x174 else bif x136 then bif x137 then x730.1 else x174 else bif x198 then x731.1 else x174 else x174
 let x733:=x730.2
 let x734:=x731.2
 let x735:Int:=bif x93 then bif x75 then x177 else bif x136 then bif x137 then x733.1 else x177 else bif x198 then x734.1 else x177 else x177
 let x736:=x733.2
 let x737:=x734.2
 let x738:Int:=bif x93 then bif x75 then x180 else bif x136 then bif x137 then x736.1 else x180 else bif x198 then x737.1 else x180 else x180
 let x739:=x736.2
 let x740:=x737.2
 let x741:Int:=bif x93 then bif x75 then x183 else bif x136 then bif x137 then x739.1 else x183 else bif x198 then x740.1 else x183 else x183
 let x742:=x739.2
 let x743:=x740.2
 let x744:Int:=bif x93 then bif x75 then x186 else bif x136 then bif x137 then x742.1 else x186 else bif x198 then x743.1 else x186 else x186
 let x745:=x742.2
 let x746:=x743.2
 let x747:Int:=bif x93 then bif x75 then x189 else bif x136 then bif x137 then x745.1 else x189 else bif x198 then x746.1 else x189 else x189
 let x748:=x745.2
 let x749:=x746.2
 let x750:Int:=bif x93 then bif x75 then x192 else bif x136 then bif x137 then x748.1 else x192 else bif x198 then x749.1 else x192 else x192
 let x751:=bif x93 then bif x75 then x193 else bif x136 then bif x137 then x748.2 else x193 else bif x198 then x749.2 else x193 else x193
 let x752:=Zby (x696,x699,x702,x705,x708,x711,x714,x717,x720,x723,x726,x729,x732,x735,x738,x741,x744,x747,x750,x751) x200 x111
 let x753:=x752.2
 let x754:=x753.2
 let x755:=x754.2
 let x756:=x755.2
 let x757:=x756.2
 let x758:=x757.2
 let x759:=x758.2
 let x760:=x759.2
 let x761:=x760.2
 let x762:=x761.2
 let x763:=x762.2
 let x764:=x763.2
 let x765:=x764.2
 let x766:=x765.2
 let x767:=x766.2
 let x768:=x767.2
 let x769:=x768.2
 let x770:=x769.2
 let x771:=x480.1
 let x772:=x771.2
 let x773:=x104.1
 let x774:ITMT:=R.get ZuT x280 x258
 let x775:=setI x233 x258 (x273,x275,x277,i64.wrap (x278.1+1),x279)
 .br (decide (a.2.2.1<a.2.1)) (.br (orR p87 x86) (.br (orR p86 x631) (.br (orR p85 x629) (.br (orR p82 x627) (.br (orR p81 x625) (.br (orR p79 x623) (.br (orR p76 x621) (.br (orR p74 x619) (.br (orR p73 x617) (.br (orR p71 x615) (.br (orR p69 x613) (.br (orR p66 x611) (.br (orR p63 x609) (.br (orR p61 x607) (.br (orR p59 x605) (.br (orR p58 x603) (.br (orR p56 x601) (.br (orR p54 x599) (.br (orR p51 x597) (.br (orR p47 x595) (.br (orR p42 x593) (.br (orR p41 x591) (.br (orR p36 x589) (.br (orR p29 x587) (.br (orR p22 x585) (.br (orR p19 x583) (.br (orR p14 x581) (.br (orR p7 x579) (.br (!Zg a.2.2.1 (Le a.1)||(x574||(x576||x577))) (.br (!Zg a.2.2.1 (Le a.1)||(x574||x575)) (.br (!Zg a.2.2.1 (Le a.1)||x573) (.br (Zg a.2.2.1 (Le a.1)) (Ls (Go1.cont (a.1,a.2.1,i64.wrap (a.2.2.1+1),a.2.2.2.1,a.2.2.2.2.1,a.2.2.2.2.2.1,a.2.2.2.2.2.2.1,a.2.2.2.2.2.2.2.1,a.2.2.2.2.2.2.2.2.1,a.2.2.2.2.2.2.2.2.2.1,a.2.2.2.2.2.2.2.2.2.2.1,a.2.2.2.2.2.2.2.2.2.2.2.1,x632,x633,x634,x635,x636,x637,x638,x639,x640,x641,x642,x643,x644,x645,x646,x647,x648,x649,x650,x651,x652,x653,x654,x655,x656,x657,x658,x659,x660,x661,x662,x663,x664,x665,x666,x667,x668,x669,x670,x671,x672,x673,x674,x675,x676,x677,x678,x679,x680,x681,x682,x683,x684,x685,x686,x687,x688,x689,x690,x691,x692,x693,x390,bif x218 then ZaV x84 x219 x486 x487 else x219,(bif x100 then bif x102 then x696 else bif x198 then x752.1 else x696 else x696,bif x100 then bif x102 then x699 else bif x198 then x753.1 else x699 else x699,bif x100 then bif x102 then x702 else bif x198 then x754.1 else x702 else x702,bif x100 then bif x102 then x705 else bif x198 then x755.1 else x705 else x705,bif x100 then bif x102 then x708 else bif x198 then x756.1 else x708 else x708,bif x100 then bif x102 then x711 else bif x198 then x757.1 else x711 else x711,bif x100 then bif x102 then x714 else bif x198 then x758.1 else x714 else x714,bif x100 then bif x102 then x717 else bif x198 then x759.1 else x717 else x717,bif x100 then bif x102 then x720 else bif x198 then x760.1 else x720 else x720,bif x100 then bif x102 then x723 else bif x198 then x761.1 else x723 else x723,bif x100 then bif x102 then x726 else bif x198 then x762.1 else x726 else x726,bif x100 then bif x102 then x729 else bif x198 then x763.1 else x729 else x729,bif x100 then bif x102 then x732 else bif x198 then x764.1 else x732 else x732,bif x100 then bif x102 then x735 else bif x198 then x765.1 else x735 else x735,bif x100 then bif x102 then x738 else bif x198 then x766.1 else x738 else x738,bif x100 then bif x102 then x741 else bif x198 then x767.1 else x741 else x741,bif x100 then bif x102 then x744 else bif x198 then x768.1 else x744 else x744,bif x90 then 0 else bif x100 then bif x102 then x747 else bif x198 then x769.1 else x747 else x747,bif x100 then bif x102 then x750 else bif x198 then x770.1 else x750 else x750,bif x100 then bif x102 then x751 else bif x198 then x770.2 else x751 else x751),(bif x218 then x771.1 else x210,bif x218 then x772.1 else x214,bif x90 then 0 else bif x218 then x772.2 else x216),x118,x82,x773,(bif x482 then x491 else x491,(bif x482 then x496 else x496,bif x482 then x499 else x499,bif x482 then x502 else x502,bif x482 then x505 else x505,bif x482 then x508 else x508,bif x482 then x511 else x511,bif x482 then x514 else x514,(bif x482 then x519 else x519,bif x482 then x522 else x522,bif x482 then x525 else x525,bif x482 then x528 else x528,bif x482 then x531 else x531,bif x482 then x534 else x534,bif x482 then x535 else x535),bif x482 then x538 else x538,bif x482 then x539 else x539),bif x482 then x542 else x542,bif x482 then x545 else x545,bif x482 then x548 else x548,bif x482 then x551 else x551,bif x482 then x554 else x554,bif x482 then x557 else x557,bif x482 then x560 else x560,bif x482 then x563 else x563,bif x482 then x566 else x566,bif x482 then x569 else x569,bif x482 then x570 else x570),bif x100 then bif x102 then x107 else x112 else x107,x224,bif x231 then x251 else bif x254 then setI x233 x258 (x273,x275,i64.wrap (x277+1),x278) else bif x268 then setI x280 x258 (x774.1,x241,x774.2.2) else bif x283 then bif x285 then bif x290 then x775 else x292 else x292 else bif x300 then bif x285 then bif x302 then x775 else x303 else x303 else bif x311 then bif x285 then bif x313 then x775 else x314 else x314 else x233,bif x482 then x488 else x484,bif x482 then x571 else x490,PUnit.unit))) Ln) Ln) Ln) Ln) Ln) Ln) Ln) Ln) Ln) Ln) Ln) Ln) Ln) Ln) Ln) Ln) Ln) Ln) Ln) Ln) Ln) Ln) Ln) Ln) Ln) Ln) Ln) Ln) Ln) Ln) Ln) Ln) (Ls (Go1.brk (a.1,a.2.1,a.2.2.1,a.2.2.2.1,a.2.2.2.2.1,a.2.2.2.2.2.1,a.2.2.2.2.2.2.1,a.2.2.2.2.2.2.2.1,a.2.2.2.2.2.2.2.2.1,a.2.2.2.2.2.2.2.2.2.1,a.2.2.2.2.2.2.2.2.2.2.1,a.2.2.2.2.2.2.2.2.2.2.2.1,x632,x633,x634,x635,x636,x637,x638,x639,x640,x641,x642,x643,x644,x645,x646,x647,x648,x649,x650,x651,x652,x653,x654,x655,x656,x657,x658,x659,x660,x661,x662,x663,x664,x665,x666,x667,x668,x669,x670,x671,x672,x673,x674,x675,x676,x677,x678,x679,x680,x681,x682,x683,x684,x685,x686,x687,x688,x689,x690,x691,x692,x693,x65,x94,x133,x122,x117,x82,x773,x382,x107,x223,x233,x376,x381,PUnit.unit)))
def ZLN:Ora:=Zbn false Z0Z ZyU (λa=>1000000000000)
theorem ZPs:ZaU (envX prog [(48,ZhN),(74,ZkT),(75,Zbp),(76,Zbu),(77,Za3)] [] 2047 8) (.block 0 (.loop (Z7 Tryz.f23.body 0))) ZLN:=
 loopP ⟨ZiC,Zl3,Zcn,Zcp,Zb0,Tv⟩
def ZXy (b:BRDT) (l:List Int):RT (Option (RUNT×Int)):=
 let x1:TC:=(0,(0,0,0,0,0,0,0,(false,false,false,false,false,false,false),0,0),false,false,false,0,false,false,false,false,false,false,false)
 let x2:CORT:=(x1,0,[],(0,0,0,0),0,false)
 let x3:PICT:=(0,false,false,false,false,0,0,false,false,false,false,false,0,0,0,0,0,0,0,false)
 let x4:SYST:=(x2,[],x3,(0,0,0),0,[])
 let x5:RUNT:=([],[],[],[],x4)
 let x6:List INPT×Int×Int×BRDT×RUNT×Int×List (QT6)×Int×Int×Int×Bool×List (Int×Int)×Int×Int×Int×Int×Int×Int×Int×Int×Bool×Bool×Bool×Bool×Bool×Bool×Bool×Int×Int×Bool×Bool×Bool×Int×Bool×Bool×Bool×Bool×Bool×Bool×Bool×Int×List Int×Int×Int×Int×Int×Int×Bool×List (Int×Int)×Int×Bool×Bool×Bool×Bool×Int×Int×Bool×Bool×Bool×Bool×Bool×Int×Int×Int×Int×Int×Int×Int×Bool×Int×Int×Int×Int×SYST×CORT×List (Int×Int)×PICT×(QT4)×Int×BRDT×SYST×TC×List (Int×Int)×List PINT×List ITMT×List EVTT×List TC×PUnit:=(decX l,iN (Le (decX l)),0,b,x5,b.1,b.2.1,b.2.2.1,b.2.2.2.1,b.2.2.2.2.1,b.2.2.2.2.2.1,b.2.2.2.2.2.2,0,0,0,0,0,0,0,0,false,false,false,false,false,false,false,0,0,false,false,false,0,false,false,false,false,false,false,false,0,[],0,0,0,0,0,false,[],0,false,false,false,false,0,0,false,false,false,false,false,0,0,0,0,0,0,0,false,0,0,0,0,x4,x2,[],x3,(0,0,0),0,b,x4,x1,[],[],[],[],[],())
 let x7:=runF false ZyU (λa=>1000000000000) x6
 let x8:QT14:=(getO (false,x6) x7).2.2.2.2.2.2.2.2.2.2.2.2.2.2.2.2.2.2.2.2.2.2.2.2.2.2.2.2.2.2.2.2.2.2.2.2.2.2.2.2.2.2.2.2.2.2.2.2.2.2.2.2.2.2.2.2.2.2.2.2.2.2.2.2.2.2.2.2.2.2.2.2.2.2.2
 let x9:=x8.1
 let x10:=ZZ3 x9
 let x11:= !x10
 let x12:=x9.2
 let x13:=x12.2.1
 let x14:=Nat.ble (Le x13) most
 let x15:= !x14
 let x16:=x8.2
 let x17:=x16.2
 let x18:=x17.2
 let x19:=x18.2
 let x20:=x19.2.2.2
 let x21:=x20.2
 let x22:=x21.2
 let x23:=x22.2
 let x24:=x23.2
 let x25:=x24.1
 let x26:QT26:=((false,false,false,false,false,false,false,false,false),false,false,false,false,0,0)
 let x27:List EVTT:=x25++[(7,x12.1,x13,x26)]
 let x28:=Nat.ble (Le x27) most
 let x29:=x24.2.1
 let x30:List TC:=x29++[x20.1]
 let x31:=x11||(x15||(!x28||Nat.ble (Le x30) most))
 let x32:= !x31
 let x33:=x11||(x15||x28)
 let x34:TF:=(newX b.1).1.2.1.2.2.2.2.2.2.2.1
 let x35:=x34.2
 let x36:=x35.2
 let x37:=x36.2
 let x38:=x37.2
 let x39:=x38.2
 let x40:Int×Int:=(newX b.1).1.2.1.2.2.2.2.2.2.2.2
 let x41:QT32:=(newX b.1).1.2.2.2.2.2.2.2.2.2.2
 let x42:=x41.2
 let x43:=Zhr.2.2.2.2.2.2.2.2.2.2.2.2.2
 let x44:=x43.2
 let x45:=x44.2
 let x46:=x45.2
 let x47:=x46.2
 let x48:=x47.2
 let x49:List INPT×Int×Int×BRDT×RUNT×Int×List (QT6)×Int×Int×Int×Bool×List (Int×Int)×Int×Int×Int×Int×Int×Int×Int×Int×Bool×Bool×Bool×Bool×Bool×Bool×Bool×Int×Int×Bool×Bool×Bool×Int×Bool×Bool×Bool×Bool×Bool×Bool×Bool×Int×List Int×Int×Int×Int×Int×Int×Bool×List (Int×Int)×Int×Bool×Bool×Bool×Bool×Int×Int×Bool×Bool×Bool×Bool×Bool×Int×Int×Int×Int×Int×Int×Int×Bool×Int×Int×Int×Int×SYST×CORT×List (Int×Int)×PICT×(QT4)×Int×BRDT×SYST×TC×List (Int×Int)×List PINT×List ITMT×List EVTT×List TC×PUnit:=(decX l,iN (Le (decX l)),0,b,x5,b.1,b.2.1,b.2.2.1,b.2.2.2.1,b.2.2.2.2.1,b.2.2.2.2.2.1,b.2.2.2.2.2.2,(newX b.1).1.1,(newX b.1).1.2.1.1,(newX b.1).1.2.1.2.1,(newX b.1).1.2.1.2.2.1,(newX b.1).1.2.1.2.2.2.1,(newX b.1).1.2.1.2.2.2.2.1,(newX b.1).1.2.1.2.2.2.2.2.1,(newX b.1).1.2.1.2.2.2.2.2.2.1,x34.1,x35.1,x36.1,x37.1,x38.1,x39.1,x39.2,x40.1,x40.2,(newX b.1).1.2.2.1,(newX b.1).1.2.2.2.1,(newX b.1).1.2.2.2.2.1,(newX b.1).1.2.2.2.2.2.1,(newX b.1).1.2.2.2.2.2.2.1,(newX b.1).1.2.2.2.2.2.2.2.1,(newX b.1).1.2.2.2.2.2.2.2.2.1,(newX b.1).1.2.2.2.2.2.2.2.2.2.1,x41.1,x42.1,x42.2,(newX b.1).2.1,(newX b.1).2.2.1,(newX b.1).2.2.2.1.1,(newX b.1).2.2.2.1.2.1,(newX b.1).2.2.2.1.2.2.1,(newX b.1).2.2.2.1.2.2.2,(newX b.1).2.2.2.2.1,(newX b.1).2.2.2.2.2,b.2.2.2.2.2.2,Zhr.1,Zhr.2.1,Zhr.2.2.1,Zhr.2.2.2.1,Zhr.2.2.2.2.1,Zhr.2.2.2.2.2.1,Zhr.2.2.2.2.2.2.1,Zhr.2.2.2.2.2.2.2.1,Zhr.2.2.2.2.2.2.2.2.1,Zhr.2.2.2.2.2.2.2.2.2.1,Zhr.2.2.2.2.2.2.2.2.2.2.1,Zhr.2.2.2.2.2.2.2.2.2.2.2.1,Zhr.2.2.2.2.2.2.2.2.2.2.2.2.1,x43.1,x44.1,x45.1,x46.1,x47.1,x48.1,x48.2,0,0,0,0,(newX b.1,b.2.2.2.2.2.2,Zhr,(0,0,0),0,[]),newX b.1,b.2.2.2.2.2.2,Zhr,(0,0,0),0,b,x4,(newX b.1).1,[],[],[],[],[],())
 let x50:=runF false ZyU (λa=>1000000000000) x49
 let x51:QT14:=(getO (false,x49) x50).2.2.2.2.2.2.2.2.2.2.2.2.2.2.2.2.2.2.2.2.2.2.2.2.2.2.2.2.2.2.2.2.2.2.2.2.2.2.2.2.2.2.2.2.2.2.2.2.2.2.2.2.2.2.2.2.2.2.2.2.2.2.2.2.2.2.2.2.2.2.2.2.2.2.2
 let x52:=x51.1
 let x53:=ZZ3 x52
 let x54:= !x53
 let x55:=x52.2
 let x56:=x55.2.1
 let x57:=Nat.ble (Le x56) most
 let x58:= !x57
 let x59:=x51.2
 let x60:=x59.2
 let x61:=x60.2
 let x62:=x61.2
 let x63:=x62.2.2.2
 let x64:=x63.2
 let x65:=x64.2
 let x66:=x65.2
 let x67:=x66.2
 let x68:=x67.1
 let x69:List EVTT:=x68++[(7,x55.1,x56,x26)]
 let x70:=Nat.ble (Le x69) most
 let x71:=x67.2.1
 let x72:List TC:=x71++[x63.1]
 let x73:=x54||(x58||(!x70||Nat.ble (Le x72) most))
 let x74:= !x73
 let x75:=x54||(x58||x70)
 .br (!ZyT b||(ZrJ b !=0||Nat.ble (Le b.2.2.2.2.2.2) most)) (.br (ZyT b) (.br (ZrJ b !=0) (.br (ZrJ b !=0) (Ls ((x5,ZrJ b))) (.br (ZRA l) (.br (okB x7) (.br (x32||(!x33||(x11||x14))) (.br (x32||x33) (.br (x31) (Ls (((x22.1,x23.1,bif x10 then x27 else x25,bif x10 then x30 else x29,x9,x16.1,x17.1,x18.1,x19.1,x21.1),0))) Ln) Ln) Ln) Ln) Ln)) (.br (ZRA l) (.br (okB x50) (.br (x74||(!x75||(x54||x57))) (.br (x74||x75) (.br (x73) (Ls (((x65.1,x66.1,bif x53 then x69 else x68,bif x53 then x72 else x71,x52,x59.1,x60.1,x61.1,x62.1,x64.1),0))) Ln) Ln) Ln) Ln) Ln)) Ln) Ln
def Z6g (b:BRDT) (l:List Int):RUNT×Int:=getO ZPN.Df (ZXy b l).val
def ZXz (b:BRDT) (l:List Int):Bool:=okB (ZXy b l).val
def Z23:En:=Zf Z05 ZPN (λa=>some (ZXz a.1 a.2)) (λa=>Z6g a.1 a.2)
theorem Z0Y:Za prog 23 Z23:=
 pureP 2047 [(48,ZhN),(74,ZkT),(75,Zbp),(76,Zbu),(77,Za3)] [(0,ZLN)] Z05 ZPN ⟨ZiC,Zl3,Zcn,Zcp,Zb0,Tv⟩ Tryz.func23 Tryz.call23 ⟨ZPs,Tv⟩ (t:=λa=>ZXy a.1 a.2)
abbrev ZWy:List Sh:=[So (R.sl (R.Pq Ka Ka)),So (R.sl (R.Pq Ka Ka))]
def Z0n:LS:={n:=26,Sl:=[(0,.code (So (R.sl (R.Pq Ka Ka)))),(1,.code (So (R.sl (R.Pq Ka Ka)))),(4,.code (So R.bool)),(12,.code (So Kc)),(13,.code (So Kc))],Bx:=[],Sg:=[]}
def Zkg (a:List (Int×Int)×List (Int×Int)×Bool×Int×Int×PUnit):RT (Option (Go1 (List (Int×Int)×List (Int×Int)×Bool×Int×Int×PUnit))):=
 let x1:= !Zg a.2.2.2.2.1 (Le a.1)||Zg a.2.2.2.2.1 (Le a.2.1)
 let x2:Int×Int:=R.get (R.Pq Ka Ka) a.1 a.2.2.2.2.1
 let x3:Int×Int:=R.get (R.Pq Ka Ka) a.2.1 a.2.2.2.2.1
 let x4:Int×Int×PUnit:=(a.2.2.2.1,a.2.2.2.2.1,PUnit.unit)
 .br (decide (a.2.2.2.2.1<a.2.2.2.1)) (.br (!x1||Zg a.2.2.2.2.1 (Le a.1)) (.br (x1) (.br (!(x2.1==x3.1&&(x2.2==x3.2&&true))) (Ls (Go1.ret (a.1,a.2.1,false,x4))) (Ls (Go1.cont (a.1,a.2.1,a.2.2.1,a.2.2.2.1,i64.wrap (a.2.2.2.2.1+1),PUnit.unit)))) Ln) Ln) (Ls (Go1.brk (a.1,a.2.1,a.2.2.1,x4)))
def ZLn:Ora:=Zbn true Z0n Zkg (λa=>1000000000000)
theorem ZPb:ZaU (envX Tryz.prog [] [] 63 8) (.block 0 (.loop (Z7 Tryz.f107.body 0))) ZLn:=
 loopP trivial
def ZB9 (a:List (Int×Int)) (b:List (Int×Int)):RT (Option (Bool)):=
 let x1:=runF true Zkg (λa_1=>1000000000000) (a,b,false,iN (Le a),0,())
 let x2:=getO (false,a,b,false,iN (Le a),0,()) x1
 .br (iN (Le a) !=iN (Le b)) (Ls (false)) (.br (okB x1) (.br x2.1 (Ls x2.2.2.2.1) (Ls (true))) Ln)
def Z0o (a:List (Int×Int)) (b:List (Int×Int)):Bool:=getO ZpN.Df (ZB9 a b).val
def ZLo (a:List (Int×Int)) (b:List (Int×Int)):Bool:=okB (ZB9 a b).val
def Z2P:En:=Zf ZWy ZpN (λa=>some (ZLo a.1 a.2)) (λa=>Z0o a.1 a.2)
theorem Z0m:Za Tryz.prog 107 Z2P:=
 pureP 63 [] [(0,ZLn)] ZWy ZpN trivial Tryz.func107 Tryz.call107 ⟨ZPb,Tv⟩ (t:=λa=>ZB9 a.1 a.2)
end
end Go.Proofs.YtpnjbfjomebppaaGreat
open Go Go.S3 Go.Proofs Go.Proofs.Cells
namespace Go.Proofs.YtpnjbfjomebppaaGreat
noncomputable section
structure Rm (rg:List Z5) (m:List Cell) (outs:List (Int×Int)) (g:List Int):Prop where
 r:smG rg=true
 m:smC m=true
 o:∀x,Nat.ble (outs++[x]).length most=true
 g:∀x,Nat.ble (g++[x]).length most=true
theorem ZO8 (l:List (Int×Int)) (hl:l.length<=most):ZLo l l=true/\Z0o l l=true:=by
 have hms:=mst;obtain⟨r,hr,h1⟩:=ZS (fl:=true) (t:=Zkg) (fuel:=λ_=>1000000000000)
  (λa=>∃i:Nat,i<=l.length/\a=(l,l,false,(l.length:Int),(i:Int),()))
  (λa=>Int.toNat (a.2.2.2.1-a.2.2.2.2.1)) (λr=>r.1=false)
  (by
   rintro a ⟨i,hi,rfl⟩;by_cases hlt:i<l.length
   ·left;have d:decide ((i:Int)<(l.length:Int))=true:=by simpa using hlt
    have r1:=Zay l i hlt;refine⟨_,?_,⟨i+1,hlt,rfl⟩,by simp only;omega⟩;simp only[Zkg,RT.val,d,r1,Yb,Yf,Yj,Zio i (by omega),Yaq,YY,Yc]
   ·right;left;have d:decide ((i:Int)<(l.length:Int))=false:=by simpa using hlt
    exact⟨(l,l,false,(l.length:Int),(i:Int),()),by simp only[Zkg,RT.val,d,Yc],rfl⟩)
  (l,l,false,iN l.length,0,()) ⟨0,YA _,rfl⟩ (by simp only[iN];omega)
 have hv:(ZB9 l l).val=some true:=by
  have hn:(iN l.length !=iN l.length)=false:=by simp
  simp only[ZB9,RT.val,hn,hr,okB,getO,h1,Yb,Yc]
 exact⟨by simp only[ZLo,hv];rfl,by simp only[Z0o,hv,getO]⟩
def Zzh (b:BRDT) (s:SYST) (i:INPT):RT (Option (SYST×PINT)):=
 let x1:SYST:=(s.1,[]++s.2.1,s.2.2.1,s.2.2.2.1,s.2.2.2.2.1,[]++s.2.2.2.2.2)
 let x2:=Zzg b x1 i
 .br (Nat.ble (Le ([]++s.2.1)) most) (.br (Nat.ble (Le ([]++s.2.2.2.2.2)) most) (.br (Zny b x1 i) (Ls ((x2.1,x2.2.1))) Ln) Ln) Ln
def ZfJ (b:BRDT) (s:SYST) (i:INPT):SYST×PINT:=getO ZkC.Df (Zzh b s i).val
def ZlY (b:BRDT) (s:SYST) (i:INPT):Bool:=okB (Zzh b s i).val
def Z1a:En:=Zf Zy4 ZkC (λa=>some (ZlY a.1 a.2.1 a.2.2)) (λa=>ZfJ a.1 a.2.1 a.2.2)
theorem ZXT:Za prog 64 Z1a:=
 pureP 2047 [(108,Zuc)] [] Zy4 ZkC ⟨Znw,Tv⟩ Tryz.func64 Tryz.call64 trivial (t:=λa=>Zzh a.1 a.2.1 a.2.2)
abbrev Zy3:List Sh:=[Sh.agg (R.Pq (R.Pq Zu (R.Pq Kc (R.Pq (R.sl Ka) (R.Pq (RY) (R.Pq Kc R.bool))))) (R.Pq rcCE (R.Pq ZY (R.Pq (R.Pq Kb (R.Pq Ka Kc)) (R.Pq Kc (R.sl (R.Pq Ka Ka))))))),Sh.agg (R.Pq (R.Pq Zu (R.Pq Kc (R.Pq (R.sl Ka) (R.Pq (RY) (R.Pq Kc R.bool))))) (R.Pq rcCE (R.Pq ZY (R.Pq (R.Pq Kb (R.Pq Ka Kc)) (R.Pq Kc (R.sl (R.Pq Ka Ka)))))))]
def Zja (a:SYST) (b:SYST):RT (Option (Bool)):=
 let x19:=(R.eqf ZY a.2.2.1 b.2.2.1 true)
 let x20:=(R.eqf ZYA a.2.2.2.1 b.2.2.2.1 true)
 let p1:=(!a.2.2.2.2.1==b.2.2.2.2.1)::(!x20)::(!x19)::(!decide (a.2.1=b.2.1))::(!ZDH a.1 b.1)::(!(!ZDH a.1 b.1||smC a.2.1))::[]
 .br (orR p1 (ZLo a.2.2.2.2.2 b.2.2.2.2.2)) (.br (!ZDH a.1 b.1||smC a.2.1) (Ls (ZDH a.1 b.1&&(decide (a.2.1=b.2.1)&&(x19&&(x20&&(a.2.2.2.2.1==b.2.2.2.2.1&&Z0o a.2.2.2.2.2 b.2.2.2.2.2)))))) Ln) Ln
def Zfx (a:SYST) (b:SYST):Bool:=getO ZpN.Df (Zja a b).val
def Zeg (a:SYST) (b:SYST):Bool:=okB (Zja a b).val
def ZHS:En:=Zf Zy3 ZpN (λa=>some (Zeg a.1 a.2)) (λa=>Zfx a.1 a.2)
theorem ZLS:Za prog 52 ZHS:=
 pureP 31 [(34,ZIX),(106,Z1I),(107,Z2P)] [] Zy3 ZpN ⟨ZMt,ZYG,Z0m,Tv⟩ Tryz.func52 Tryz.call52 trivial (t:=λa=>Zja a.1 a.2)
def ZVQ (s:List Int×Int):RT (Option (PICT×List Int×Int)):=
 let x1:=Zg (Zd s 6).1 (Le [0,0,0,2,3,4])
 let x2:= !x1
 let p1:=(!Zav (ZE (Zd s 6).2).2)::(!Zav (Zd s 6).2)::x2::(!Zj s 6)::[]
 let p2:=(!Zav (ZE (ZE (Zd s 6).2).2).2)::p1
 let p3:=(!Zav (ZE (ZE (ZE (Zd s 6).2).2).2).2)::p2
 let x3:= !Zfs (ZE (ZE (ZE (ZE (Zd s 6).2).2).2).2).2
 let p4:=x3::p3
 let x4:List Int×Int:=(ZcX (ZE (ZE (ZE (ZE (Zd s 6).2).2).2).2).2).2
 let x5:=Zfs x4
 let x6:= !x5
 let p5:=x6::p4
 let x7:=ZcX x4
 let x8:=x7.2
 let x9:=Zj x8 4
 let x10:= !x9
 let p6:=x10::p5
 let x11:=Zd x8 4
 let x12:=x11.2
 let x13:=Zj x12 4
 let x14:= !x13
 let p7:=x14::p6
 let x15:=Zd x12 4
 let x16:=x15.2
 let x17:=Zj x16 4
 let x18:= !x17
 let p8:=x18::p7
 let x19:=Zd x16 4
 let x20:=x19.2
 let x21:=Zav x20
 let x22:= !x21
 let p9:=x22::p8
 let x23:=ZE x20
 let x24:=x23.2
 let x25:=Zj x24 6
 let x26:= !x25
 let p10:=x26::p9
 let x27:=Zd x24 6
 let x28:=x27.2
 let x29:=Zj x28 256
 let x30:= !x29
 let p11:=x30::p10
 let x31:=Zd x28 256
 let x32:=x31.2
 let x33:=Zj x32 256
 let x34:= !x33
 let p12:=x34::p11
 let x35:=Zd x32 256
 let x36:=x35.2
 let x37:=Zj x36 256
 let x38:= !x37
 let p13:=x38::p12
 let x39:=Zd x36 256
 let x40:=x39.2
 let x41:=Zj x40 256
 let x42:= !x41
 let p14:=x42::p13
 let x43:=Zd x40 256
 let x44:=x43.2
 let x45:=Zj x44 256
 let x46:= !x45
 let p15:=x46::p14
 let x47:=Zd x44 256
 let x48:=x47.2
 let x49:=Zj x48 256
 let x50:= !x49
 let p16:=x50::p15
 let x51:=Zd x48 256
 let x52:=x51.2
 let x53:=Zj x52 8
 let x54:= !x53
 let p17:=x54::p16
 let x55:=Zd x52 8
 let x56:=x55.2
 let x57:=Zj x56 3
 let x58:= !x57
 let p18:=x58::p17
 let x59:=Zd x56 3
 let x60:=x59.2
 let x61:=Zj x60 8
 let p19:=(!x61)::p18
 let x62:=Zd x60 8
 let x63:=x62.2
 let x64:=Zd x63 5
 .br (orR p19 (Zj x63 5)) (.br (orR p18 x61) (.br (orR p17 x57) (.br (orR p16 x53) (.br (orR p15 x49) (.br (orR p14 x45) (.br (orR p13 x41) (.br (orR p12 x37) (.br (orR p11 x33) (.br (orR p10 x29) (.br (orR p9 x25) (.br (orR p8 x21) (.br (orR p7 x17) (.br (orR p6 x13) (.br (orR p5 x9) (.br (orR p4 x5) (.br (orR p3 (Zfs (ZE (ZE (ZE (ZE (Zd s 6).2).2).2).2).2)) (.br (orR p2 (Zav (ZE (ZE (ZE (Zd s 6).2).2).2).2)) (.br (orR p1 (Zav (ZE (ZE (Zd s 6).2).2).2)) (.br (!Zj s 6||(x2||(!Zav (Zd s 6).2||Zav (ZE (Zd s 6).2).2))) (.br (!Zj s 6||(x2||Zav (Zd s 6).2)) (.br (!Zj s 6||x1) (.br (Zj s 6) (Ls (((R.get Kc [0,0,0,2,3,4] (Zd s 6).1,(ZE (Zd s 6).2).1,(ZE (ZE (Zd s 6).2).2).1,(ZE (ZE (ZE (Zd s 6).2).2).2).1,(ZE (ZE (ZE (ZE (Zd s 6).2).2).2).2).1,andI u8 (ZcX (ZE (ZE (ZE (ZE (Zd s 6).2).2).2).2).2).1 224,x7.1,x11.1==0,x15.1==0,x19.1==0,x23.1,x27.1==0,u8.wrap x31.1,u8.wrap x35.1,andI u8 (u8.wrap x39.1) (u8.wrap x43.1),andI u8 (u8.wrap x47.1) (u8.wrap x51.1),x55.1,x59.1,x62.1,x64.1==0),x64.2))) Ln) Ln) Ln) Ln) Ln) Ln) Ln) Ln) Ln) Ln) Ln) Ln) Ln) Ln) Ln) Ln) Ln) Ln) Ln) Ln) Ln) Ln) Ln
def nPIC (s:List Int×Int):PICT×List Int×Int:=getO (Z1l.Df,ZG2.Df) (ZVQ s).val
def Z0d (s:List Int×Int):Bool:=okB (ZVQ s).val
def Z7s:En:=boxE ZG2 ZAG Z1l (λa=>some (Z0d a.1)) (λa=>nPIC a.1)
theorem Z5x:Za prog 61 Z7s:=
 ZcB (P:=prog) (n:=7) (k:=8) (l:=[(68,Zc3),(69,ZV0),(71,ZtH)]) (ol:=[]) ⟨Za5,ZKY,Zka,Tv⟩ Tryz.func61 rfl (by kernel_rfl) Tryz.call61 trivial (rb:=ZG2) (ts:=ZAG) (rs:=Z1l) (t:=λa=>ZVQ a.1) (λa=>by kernel_rfl)
def Z0k:RT (Option (Bool)):=
 let x1:=rep (false,false,false,false,false,false,false,false,0,0) (Int.toNat 0)
 let x2:=ZmD x1
 let x3:BRDT:=(1,[(0,65535,true,1)],0,0,0,false,[])
 let x4:=ZiG x1
 let x5:=Z6g x3 x4
 let x6:= !x5.2==0
 let x7:= !iN (Le x5.1.1)==0
 let x8:=Z6g x3 (rep 0 (Int.toNat 24))
 let x9:= !x8.2==0
 let x10:=x8.1.1
 let x11:Nat:=Le x10
 let x12:= !iN x11==6
 let p1:=x12::x9::x7::x6::[]
 let x13:=orR p1 (Zg 2 x11)
 let p2:=(!(R.get ZkZ x10 2).1==7)::x12::x9::x7::x6::(!x13)::[]
 .br (!x2||ZXz x3 x4) (.br (x2) (.br (ZXz x3 (rep 0 (Int.toNat 24))) (.br (orR p2 (Zg 5 x11)) (.br (x13) (Ls (true)) Ln) Ln) Ln) Ln) Ln
def kKn5:Bool:=getO ZpN.Df (Z0k).val
def Z0l:Bool:=okB (Z0k).val
def Z7I:En:=Zf ZAG ZpN (λa=>some (Z0l)) (λa=>kKn5)
theorem Z5K:Za prog 45 Z7I:=
 pureP 63 [(23,Z23),(56,ZH0)] [] ZAG ZpN ⟨Z0Y,ZLW,Tv⟩ Tryz.func45 Tryz.call45 trivial (t:=λa=>Z0k)
def Zdl:En:=.tree (Zq (envX prog [] [] 7 8) Tryz.f31)
theorem Zef:Za prog 31 Zdl:=ZD trivial Tryz.func31 rfl (by kernel_rfl) Tryz.call31 trivial
abbrev ZLk:List Sh:=[So (R.sl Kc),So Kc]
abbrev Zyq:Rs:=Rs.tup [Sh.agg (R.Pq Kc (R.Pq rcRG (R.Pq Kc (R.Pq Ka (R.Pq Ka (R.Pq R.bool rcCE)))))),So (R.sl Ka)]
def Zrb (n:List Int) (k:Int):RT (Option (BRDT×List Int)):=
 .br (ZqU (n,0)) (.br (Znd (Zde (n,0)).2 k) (Ls (((Zde (n,0)).1,(Zhw (Zde (n,0)).2 k).1))) Ln) Ln
def Zam (n:List Int) (k:Int):BRDT×List Int:=getO Zyq.Df (Zrb n k).val
def Zrc (n:List Int) (k:Int):Bool:=okB (Zrb n k).val
def ZWv:En:=Zf ZLk Zyq (λa=>some (Zrc a.1 a.2)) (λa=>Zam a.1 a.2)
theorem ZWu:Za prog 46 ZWv:=
 pureP 255 [(31,Zdl),(66,ZV7),(67,ZKV)] [] ZLk Zyq ⟨Zef,ZV4,ZOS,Tv⟩ Tryz.func46 Tryz.call46 trivial (t:=λa=>Zrb a.1 a.2)
def Zyr (b:BRDT):RT (Bool):=
 .Lf (decide (iN (Le b.2.1)<=40)&&decide (iN (Le b.2.2.2.2.2.2)<=60))
def Zys (b:BRDT):Bool:=(Zyr b).val
def ZLl:En:=Zf ZHP ZpN (λ_=>none) (λa=>Zys a)
theorem ZO7:Za prog 44 ZLl:=
 pureQ 7 [] [] ZHP ZpN trivial Tryz.func44 Tryz.call44 trivial (t:=λa=>Zyr a)
abbrev ZWq:List Sh:=[Sh.agg (R.Pq Kc (R.Pq rcRG (R.Pq Kc (R.Pq Ka (R.Pq Ka (R.Pq R.bool rcCE)))))),Sh.agg (R.Pq (R.Pq Zu (R.Pq Kc (R.Pq (R.sl Ka) (R.Pq (RY) (R.Pq Kc R.bool))))) (R.Pq rcCE (R.Pq ZY (R.Pq (R.Pq Kb (R.Pq Ka Kc)) (R.Pq Kc (R.sl (R.Pq Ka Ka))))))),Sh.agg Zb8,So (R.sl Kc)]
def ZtK (b:BRDT) (s:SYST) (i:INPT) (n:List Int):RT (Option (Bool)):=
 let p2:=(decide (iN (Le s.1.2.2.1)>20))::(decide (iN (Le s.2.2.2.2.2)>60))::(decide (iN (Le s.2.1)>60))::(!Zys b)::[]
 let x1:=orR p2 (decide (iN (Le n)>250))
 let x2:SYST:=(wRun (Zam n 40).1 (Zam n 40).2).1.2.2.2.2
 let x3:=Zg8 (Zam n 40).1 x2
 let x4:= !x3
 let x5:=ZlY (Zam n 40).1 x2 i
 let x6:=Z9 (Zam n 40).1 x2 i
 let x7:=x6.2.1
 let x8:=ZfJ (Zam n 40).1 x2 i
 let x9:=x8.2
 let x40:= !(R.eqf ZkZ x7 x9 true)
 let x41:=x6.1
 let x42:=x8.1
 let x43:=x4||(!x5||(x40||Zeg x41 x42))
 let x44:= !x43
 let x45:=x4||x5
 let x46:= !x45
 let x47:=x40|| !Zfx x41 x42
 let p6:=x47::x4::x46::x44::[]
 let x48:=ZlY (Zam n 40).1 x2 (ZcC (n,0)).1
 let x49:=Z9 (Zam n 40).1 x2 (ZcC (n,0)).1
 let x50:=x49.2.1
 let x51:=ZfJ (Zam n 40).1 x2 (ZcC (n,0)).1
 let x52:=x51.2
 let x83:= !(R.eqf ZkZ x50 x52 true)
 let x84:=x49.1
 let x85:=x51.1
 let x86:=x4||(!x48||(x83||Zeg x84 x85))
 let x87:= !x86
 let p8:=x87::p6
 let x88:=x4||x48
 let p12:=(!x88)::p8
 let x89:=orR p12 x3
 let x90:= !x89
 let x91:=orR p8 x88
 let x92:= !x91
 let x93:=orR p6 x86
 let x94:= !x93
 let x95:=x44||(x46||x3)
 let x96:= !x95
 let p5:=x96::x94::x92::x90::[]
 let x97:=x44||x45
 let p11:=(!x97)::p5
 let x98:=orR p11 x43
 let x99:= !x98
 let x100:=orR p5 x97
 let x101:= !x100
 let x102:=x90||(x92||(x94||x95))
 let x103:= !x102
 let x104:=x90||(x92||x93)
 let x105:= !x104
 let p3:=x105::x103::x101::x99::[]
 let x106:=x90||x91
 let x107:= !x106
 let p7:=x107::p3
 let x108:=x83|| !Zfx x84 x85
 let p14:=x108::x47::x90::p7
 let x109:=x2.1
 let x110:=x2.2
 let x111:=x110.1
 let x112:=x110.2.2
 let x113:SYST:=(x109,x111,(nPIC (n,0)).1,x112)
 let x114:=Zg8 (Zam n 40).1 x113
 let x115:= !x114
 let x116:SYST:=(x109,x111,(nPIC (n,0)).1,x112)
 let x117:=ZlY (Zam n 40).1 x116 i
 let x118:=Z9 (Zam n 40).1 x113 i
 let x119:=x118.2.1
 let x120:=ZfJ (Zam n 40).1 x116 i
 let x121:=x120.2
 let x152:= !(R.eqf ZkZ x119 x121 true)
 let x153:=x118.1
 let x154:=x120.1
 let x155:=x115||(!x117||(x152||Zeg x153 x154))
 let x156:= !x155
 let x157:=x115||x117
 let x158:= !x157
 let x159:=x152|| !Zfx x153 x154
 let p4:=x159::x115::x158::x156::[]
 let x160:=ZlY (Zam n 40).1 x116 (ZcC (n,0)).1
 let x161:=Z9 (Zam n 40).1 x113 (ZcC (n,0)).1
 let x162:=x161.2.1
 let x163:=ZfJ (Zam n 40).1 x116 (ZcC (n,0)).1
 let x164:=x163.2
 let x195:= !(R.eqf ZkZ x162 x164 true)
 let x196:=x161.1
 let x197:=x163.1
 let x198:=x115||(!x160||(x195||Zeg x196 x197))
 let x199:= !x198
 let p9:=x199::p4
 let x200:=x115||x160
 let p13:=(!x200)::p9
 let x201:=orR p13 x114
 let x202:= !x201
 let x203:=orR p9 x200
 let x204:= !x203
 let x205:=orR p4 x198
 let x206:= !x205
 let x207:=x156||(x158||x114)
 let x208:= !x207
 let p1:=x208::x206::x204::x202::[]
 let x209:=x156||x157
 let p10:=(!x209)::p1
 let x210:=orR p10 x155
 let x211:= !x210
 let p15:=x211::p14
 let x212:=orR p1 x209
 let x213:= !x212
 let p16:=x213::p15
 let x214:=x202||(x204||(x206||x207))
 let x215:= !x214
 let p17:=x215::p16
 let x216:=x202||(x204||x205)
 let x217:= !x216
 let p18:=x217::p17
 let x218:=x202||x203
 let p19:=(!x218)::p18
 let x219:LINT:=(Z9 b s i).2.1.2.2.2.2.2.2.2.2
 let x220:=x219.2
 let x221:Bool×Bool×Bool×Bool×Bool×Bool×Bool×Bool:=(ZfJ b s i).2.2.2.2.2.2.2.2.2.2
 let x222:=x220.2
 let x223:=x221.2
 let x224:=x222.2
 let x225:=x223.2
 let x226:=x224.2
 let x227:=x225.2
 let x228:=x226.2
 let x229:=x227.2
 let x230:=x228.2
 let x231:=x229.2
 let x232:=x230.2
 let x233:=x231.2
 let x234:=(Z9 b s i).2.1.1==(ZfJ b s i).2.1&&((Z9 b s i).2.1.2.1==(ZfJ b s i).2.2.1&&((Z9 b s i).2.1.2.2.1==(ZfJ b s i).2.2.2.1&&((Z9 b s i).2.1.2.2.2.1==(ZfJ b s i).2.2.2.2.1&&((Z9 b s i).2.1.2.2.2.2.1==(ZfJ b s i).2.2.2.2.2.1&&((Z9 b s i).2.1.2.2.2.2.2.1==(ZfJ b s i).2.2.2.2.2.2.1&&((Z9 b s i).2.1.2.2.2.2.2.2.1==(ZfJ b s i).2.2.2.2.2.2.2.1&&((Z9 b s i).2.1.2.2.2.2.2.2.2.1==(ZfJ b s i).2.2.2.2.2.2.2.2.1&&(x219.1==(ZfJ b s i).2.2.2.2.2.2.2.2.2.1&&(x220.1==x221.1&&(x222.1==x223.1&&(x224.1==x225.1&&(x226.1==x227.1&&(x228.1==x229.1&&(x230.1==x231.1&&(x232.1==x233.1&&(x232.2==x233.2&&true))))))))))))))))
 let x235:= !x234
 let x236:=x235||Zeg (Z9 b s i).1 (ZfJ b s i).1
 .br (!x1||Z0l) (.br (x1) (Ls (true)) (.br (Zrc n 40) (.br (ZPQ (Zam n 40).1 (Zam n 40).2) (.br (Z0d (n,0)) (.br (ZhA (n,0)) (.br (orR p19 x201) (.br (orR p18 x218) (.br (orR p17 x216) (.br (orR p16 x214) (.br (orR p15 x212) (.br (orR p14 x210) (.br (orR p7 x89) (.br (orR p3 x106) (.br (x99||(x101||(x103||x104))) (.br (x99||(x101||x102)) (.br (x99||x100) (.br (x98) (.br (x47) (Ls (false)) (.br (x108) (Ls (false)) (.br (x159) (Ls (false)) (.br (x195|| !Zfx x196 x197) (Ls (false)) (.br (Zg8 b s) (.br (ZlY b s i) (.br (!x236||(x235||(!Zfx (Z9 b s i).1 (ZfJ b s i).1||Z0l))) (.br (x236) (Ls (x234&&(Zfx (Z9 b s i).1 (ZfJ b s i).1&&kKn5))) Ln) Ln) Ln) Ln))))) Ln) Ln) Ln) Ln) Ln) Ln) Ln) Ln) Ln) Ln) Ln) Ln) Ln) Ln) Ln) Ln)) Ln
def Z5J (b:BRDT) (s:SYST) (i:INPT) (n:List Int):Bool:=getO ZpN.Df (ZtK b s i n).val
def ZWr (b:BRDT) (s:SYST) (i:INPT) (n:List Int):Bool:=okB (ZtK b s i n).val
def Z7F:En:=Zf ZWq ZpN (λa=>some (ZWr a.1 a.2.1 a.2.2.1 a.2.2.2)) (λa=>Z5J a.1 a.2.1 a.2.2.1 a.2.2.2)
theorem lBClk_ok:Za prog 12 Z7F:=
 pureP 134217727 [(31,Zdl),(44,ZLl),(45,Z7I),(46,ZWv),(52,ZHS),(53,Z6k),(61,Z7s),(62,Zlw),(63,ZCy),(64,Z1a)] [] ZWq ZpN ⟨Zef,ZO7,Z5K,ZWu,ZLS,Z29,Z5x,Zj9,ZHJ,ZXT,Tv⟩ Tryz.func12 Tryz.call12 trivial (t:=λa=>ZtK a.1 a.2.1 a.2.2.1 a.2.2.2)
theorem lval9 {t:RT (Option Bool)} (h:t.val=some true):okB t.val=true/\getO false t.val=true:=by rw[h];exact⟨rfl,rfl⟩
theorem ZWs:Z0l=true/\kKn5=true:=lval9 (t:=Z0k) (by kernel_rfl)
theorem ZRn (c:CORT):ZDH c c=true:=by simp[ZDH,ZRM,RT.val]
theorem eqf_refl:∀(r:R) (x:r.den) (e:Bool),R.eqf r x x e=e
 | .int _,x,e=>by show (((x:Int)==x)&&e)=e;rw[Yaq,YP]
 | .bool,x,e=>by show (((x:Bool)==x)&&e)=e;rw[Yaq,YP]
 | .Pq a b,x,e=>by show a.eqf x.1 x.1 (b.eqf x.2 x.2 e)=e;rw[eqf_refl b,eqf_refl a]
 | .str,_,e=>rfl
 | .sl _,_,e=>rfl
 | .unit,_,e=>rfl
theorem ZYo (a:SYST) (hm:a.2.1.length<=1000000) (ho:a.2.2.2.2.2.length<=1000000):Zeg a a=true/\Zfx a a=true:=by
 have hms:=mst;obtain⟨j1,j2⟩:=ZO8 a.2.2.2.2.2 (by omega);have hc:smC a.2.1=true:=smCb hm;have e1:R.eqf ZY a.2.2.1 a.2.2.1 true=true:=eqf_refl _ _ _;have e2:R.eqf ZYA a.2.2.2.1 a.2.2.2.1 true=true:=eqf_refl _ _ _;have hv:(Zja a a).val=some true:=by simp only[Zja,RT.val,j1,j2,hc,e1,e2,ZRn,decide_true,Yaq,ZbQ,ZaM,Yh,Yf,Yaa,YY,Yb]
 exact⟨by simp only[Zeg,hv,okB],by simp only[Zfx,hv,getO]⟩
theorem ZYn (n:List Int) (k:Nat) (hk:k<=250):Zrc n (k:Int)=true/\smG (Zam n (k:Int)).1.2.1=true/\(Zam n (k:Int)).1.2.2.2.2.2.2.length<=200/\(Zam n (k:Int)).2.length<=4*k/\(Zam n (k:Int)).1=(Zde (n,0)).1:=by
 obtain⟨c1,b1,⟨s1,bs1,hr⟩,hch,_,l,hl,hi⟩:=ZV5 (ZHq n) (by omega);obtain⟨c2,_,l2⟩:=ZVV bs1 (by omega);obtain⟨c3,b3,l3,_⟩:=ZOT b1 (by omega) k hk;have hv:(Zrb n (k:Int)).val=some ((Zde (n,0)).1,(Zhw (Zde (n,0)).2 (k:Int)).1):=by simp only[Zrb,RT.val,c1,c3,Yb]
 have e:Zam n (k:Int)=((Zde (n,0)).1,(Zhw (Zde (n,0)).2 (k:Int)).1):=by simp only[Zam,hv,getO]
 refine⟨by simp only[Zrc,hv,okB],?_,?_,?_,by rw[e]⟩
 ·rw[e,hr];exact smGb (by omega)
 ·rw[e];show (Zde (n,0)).1.2.2.2.2.2.2.length<=200;rw[hi];exact YS (ZeQ l) hl
 ·rw[e];exact l3
theorem ZHF (b:BRDT) (s:SYST) (i:INPT) (h:Zg8 b s=true):ZlY b s i=true/\ZfJ b s i=((Z9 b s i).1,(Z9 b s i).2.1):=by
 have hms:=mst;simp only[Zg8,Ya,Yz] at h;obtain⟨h1,h2,h3,h4⟩:=h;obtain⟨k1,k2⟩:=Zzf b s i h1 h2 h3 h4;have b1:Nat.ble (List.length s.2.1) most=true:=ZaF (by omega);have b2:Nat.ble (List.length s.2.2.2.2.2) most=true:=ZaF (by omega);have e:(s.1,s.2.1,s.2.2.1,s.2.2.2.1,s.2.2.2.2.1,s.2.2.2.2.2)=s:=rfl;have hv:(Zzh b s i).val=some ((Z9 b s i).1,(Z9 b s i).2.1):=by simp only[Zzh,RT.val,List.nil_append,e,b1,b2,k1,k2,Yb]
 exact⟨by simp only[ZlY,hv,okB],by simp only[ZfJ,hv,getO]⟩
theorem ZuJ (b:BRDT) (s:SYST) (i:INPT) (h:Zg8 b s=true):Zeg (Z9 b s i).1 (Z9 b s i).1=true/\Zfx (Z9 b s i).1 (Z9 b s i).1=true:=by simp only[Zg8,Ya,Yz] at h;obtain⟨h1,h2,h3,h4⟩:=h;obtain⟨_,k2,k3⟩:=ZrG b s i;exact ZYo _ (by omega) (by omega)
theorem ZYp (b:BRDT) (l:List Int) (hg:smG b.2.1=true) (hm:b.2.2.2.2.2.2.length<=100000) (hl:l.length<=4000):ZPQ b l=true/\(wRun b l).1.2.2.2.2.2.1.length<=200000/\(wRun b l).1.2.2.2.2.2.2.2.2.2.length<=200000/\(wRun b l).1.2.2.2.2.1.2.2.1.length<=200000:=by
 obtain⟨w1,w2⟩:=Z3a b l hg hm hl;obtain⟨n1,n2,n3⟩:=ZPS b hg hm;have hd:=(Zsb l hl).2;refine⟨w1,?_⟩;rw[w2];unfold ZYr;cases hx:(wNew b).2 !=0
 ·have h0:(wNew b).2=0:=by simpa using hx
  have hf:=ZyB b (Zfj b) (Zbm l) (Zmv b) 0 (n3 h0).1;have e:∀st,(endS (Zfj b) st).2.2.2.2=st.1:=λst=>by unfold endS;cases ZiS st.1.1<;>rfl
  simp only[Yc];have hm':=hf.m;have ho':=hf.o;have hk':=hf.k;rw[e];exact⟨by omega,by omega,by omega⟩
 ·exact⟨by show ([]:List Cell).length<=_;simp,by show ([]:List (Int×Int)).length<=_;simp,by show ([]:List Int).length<=_;simp⟩
theorem Z5y {s:List Int×Int} {k:Int} (h:NB s k) (hk:k<=100000):Z0d s=true:=by
 obtain⟨a0,b0,c0,e0⟩:=Zp h (by omega) 6 (by decide) (by decide);obtain⟨a1,b1⟩:=ZdT b0 (by omega);obtain⟨a2,b2⟩:=ZdT b1 (by omega);obtain⟨a3,b3⟩:=ZdT b2 (by omega);obtain⟨a4,b4⟩:=ZdT b3 (by omega);obtain⟨a5,b5,_⟩:=Zie b4 (by omega);obtain⟨a6,b6,_⟩:=Zie b5 (by omega);obtain⟨a7,b7,c7,e7⟩:=Zp b6 (by omega) 4 (by decide) (by decide);obtain⟨a8,b8,c8,e8⟩:=Zp b7 (by omega) 4 (by decide) (by decide);obtain⟨a9,b9,c9,e9⟩:=Zp b8 (by omega) 4 (by decide) (by decide);obtain⟨a10,b10⟩:=ZdT b9 (by omega);obtain⟨a11,b11,c11,e11⟩:=Zp b10 (by omega) 6 (by decide) (by decide);obtain⟨a12,b12,c12,e12⟩:=Zp b11 (by omega) 256 (by decide) (by decide);obtain⟨a13,b13,c13,e13⟩:=Zp b12 (by omega) 256 (by decide) (by decide);obtain⟨a14,b14,c14,e14⟩:=Zp b13 (by omega) 256 (by decide) (by decide);obtain⟨a15,b15,c15,e15⟩:=Zp b14 (by omega) 256 (by decide) (by decide);obtain⟨a16,b16,c16,e16⟩:=Zp b15 (by omega) 256 (by decide) (by decide);obtain⟨a17,b17,c17,e17⟩:=Zp b16 (by omega) 256 (by decide) (by decide);obtain⟨a18,b18,c18,e18⟩:=Zp b17 (by omega) 8 (by decide) (by decide);obtain⟨a19,b19,c19,e19⟩:=Zp b18 (by omega) 3 (by decide) (by decide);obtain⟨a20,b20,c20,e20⟩:=Zp b19 (by omega) 8 (by decide) (by decide);obtain⟨a21,b21,c21,e21⟩:=Zp b20 (by omega) 5 (by decide) (by decide);have r1:Zg (Zd s 6).1 6=true:=Z0.2 ⟨c0,by omega⟩;have hv:∃v,(ZVQ s).val=some v:=by simp only[ZVQ,RT.val,List.length_cons,List.length_nil,Ys,Nat.reduceAdd,r1,a0,a1,a2,a3,a4,a5,a6,a7,a8,a9,a10,a11,a12,a13,a14,a15,a16,a17,a18,a19,a20,a21,ZbQ,ZaM,Yh,Yf,Yaa,Yu,Yj,Yb];exact⟨_,rfl⟩
 obtain⟨v,hv⟩:=hv;simp only[Z0d,hv,okB]
theorem bclk_law (b:BRDT) (s:SYST) (i:INPT) (n:List Int):ZWr b s i n=true/\Z5J b s i n=true:=by
 have hv:(ZtK b s i n).val=some true:=by
  cases hx:orR [decide (iN (List.length s.1.2.2.1)>20),decide (iN (List.length s.2.2.2.2.2)>60),decide (iN (List.length s.2.1)>60),!Zys b] (decide (iN (List.length n)>250))
  ·have hx':=hx;simp only[ZbQ,ZaM,Yo,Bool.not_eq_false',Y6,iN] at hx';obtain⟨x1,x2,x3,x4,x5⟩:=hx';have hlt:b.2.1.length<=40/\b.2.2.2.2.2.2.length<=60:=by simp only[Zys,Zyr,RT.val,Ya,Yi,iN,Le] at x1;omega
   obtain⟨s1,s2,s3,s4,s5⟩:=ZYn n 40 (by omega);have s1:Zrc n 40=true:=s1;have s2:smG (Zam n 40).1.2.1=true:=s2;have s3:(Zam n 40).1.2.2.2.2.2.2.length<=200:=s3;have s4:(Zam n 40).2.length<=4*40:=s4;have pc:=Z5y (ZHq n) (by omega);obtain⟨ic,_⟩:=ZBD (ZHq n) (by omega);obtain⟨w1,w2,w3,w4⟩:=ZYp (Zam n 40).1 (Zam n 40).2 s2 (by omega) (by omega);have r1:Zg8 (Zam n 40).1 (wRun (Zam n 40).1 (Zam n 40).2).1.2.2.2.2=true:=by simp only[Zg8,Ya,Yz];exact⟨s2,by omega,by omega,by omega⟩
   have r2:Zg8 (Zam n 40).1 ((wRun (Zam n 40).1 (Zam n 40).2).1.2.2.2.2.1,(wRun (Zam n 40).1 (Zam n 40).2).1.2.2.2.2.2.1,(nPIC (n,0)).1,(wRun (Zam n 40).1 (Zam n 40).2).1.2.2.2.2.2.2.2)=true:=r1;have r3:Zg8 b s=true:=by simp only[Zg8,Ya,Yz];exact⟨smGb (by omega),by omega,by omega,by omega⟩
   have p:∀q:PINT,R.eqf ZkZ q q true=true:=λq=>eqf_refl _ _ _
   have f1:=λj=>ZHF _ _ j r1
   have f2:=λj=>ZHF _ _ j r2
   have f3:=λj=>ZHF _ _ j r3
   have g1:=λj=>ZuJ _ _ j r1
   have g2:=λj=>ZuJ _ _ j r2
   have g3:=λj=>ZuJ _ _ j r3
   simp only[ZtK,RT.val,hx,ZWs.1,s1,w1,pc,ic,r1,r2,r3,(f1 _).1,(f1 _).2,(f2 _).1,(f2 _).2,(f3 _).1,(f3 _).2,(g1 _).1,(g1 _).2,(g2 _).1,(g2 _).2,(g3 _).1,(g3 _).2,p,ZWs.2,Yaq,YY,YV,ZbQ,ZaM,Yh,Yt,Yf,Ym,Yaa,Yu,Yj,Yb,Yc]
  ·simp only[ZtK,RT.val,hx,ZWs.1,Yf,Yj,Yb]
 exact⟨by simp only[ZWr,hv];rfl,by simp only[Z5J,hv,getO]⟩
