import Derived.Test.YtpnjbfjomebppaaGreatDecP
open Go.Proofs.Tryz (prog)
open Go.IntKind (u8 u16 i64)
set_option linter.unusedSimpArgs false
open Go Go.S3 Go.Proofs
set_option linter.unusedVariables false
set_option maxRecDepth 100000
namespace Go.Proofs.YtpnjbfjomebppaaGreat
noncomputable section
def Zgi:En:=.tree (Zn (envX prog [(50,ZiI),(97,ZDM),(98,Zk1),(99,ZvG)] [] 31 8) Tryz.f48)
theorem Zg5:Za prog 48 Zgi:=ZI (P:=prog) (n:=31) (k:=8) (l:=[(50,ZiI),(97,ZDM),(98,Zk1),(99,ZvG)]) (ol:=[]) ⟨ZjM,ZDL,ZqD,Zr6,Tv⟩ Tryz.func48 rfl (by kernel_rfl) Tryz.call48 trivial
def ZaX:En:=.tree (Zn (envX prog [] [] 63 8) Tryz.f197)
theorem Zd6:Za prog 197 ZaX:=ZI (P:=prog) (n:=63) (k:=8) (l:=[]) (ol:=[]) trivial Tryz.func197 rfl (by kernel_rfl) Tryz.call197 trivial
def ZaY:En:=.tree (Zn (envX prog [(197,ZaX)] [] 40567299923085334190945185301503 8) Tryz.f131)
theorem Zd7:Za prog 131 ZaY:=ZI (P:=prog) (n:=40567299923085334190945185301503) (k:=8) (l:=[(197,ZaX)]) (ol:=[]) ⟨Zd6,Tv⟩ Tryz.func131 rfl (by kernel_rfl) Tryz.call131 trivial
def Zbr:En:=.tree (Zn (envX prog [] [] 31 8) Tryz.f133)
theorem Zem:Za prog 133 Zbr:=ZI (P:=prog) (n:=31) (k:=8) (l:=[]) (ol:=[]) trivial Tryz.func133 rfl (by kernel_rfl) Tryz.call133 trivial
def Zy:En:=.tree (Zn (envX prog [] [] 63 8) Tryz.f134)
theorem Zau:Za prog 134 Zy:=ZI (P:=prog) (n:=63) (k:=8) (l:=[]) (ol:=[]) trivial Tryz.func134 rfl (by kernel_rfl) Tryz.call134 trivial
def ZaO:En:=.tree (Zn (envX prog [(120,ZjK),(133,Zbr),(134,Zy),(144,Zwd)] [] 63 8) Tryz.f132)
theorem Zdw:Za prog 132 ZaO:=ZI (P:=prog) (n:=63) (k:=8) (l:=[(120,ZjK),(133,Zbr),(134,Zy),(144,Zwd)]) (ol:=[]) ⟨ZoU,Zem,Zau,ZEb,Tv⟩ Tryz.func132 rfl (by kernel_rfl) Tryz.call132 trivial
def ZaW:En:=.tree (Zn (envX prog [(130,ZMy),(131,ZaY),(132,ZaO),(133,Zbr),(134,Zy)] [] 45177283517874303 8) Tryz.f75)
theorem ZbK:Za prog 75 ZaW:=ZI (P:=prog) (n:=45177283517874303) (k:=8) (l:=[(130,ZMy),(131,ZaY),(132,ZaO),(133,Zbr),(134,Zy)]) (ol:=[]) ⟨ZQr,Zd7,Zdw,Zem,Zau,Tv⟩ Tryz.func75 rfl (by kernel_rfl) Tryz.call75 trivial
def Zaa:En:=.tree (Zn (envX prog [] [] 23 8) Tryz.f201)
theorem Zb6:Za prog 201 Zaa:=ZI (P:=prog) (n:=23) (k:=8) (l:=[]) (ol:=[]) trivial Tryz.func201 rfl (by kernel_rfl) Tryz.call201 trivial
def Zbc:En:=.tree (Zn (envX prog [(201,Zaa),(269,ZmH)] [] 4195343 8) Tryz.f200)
theorem Zec:Za prog 200 Zbc:=ZI (P:=prog) (n:=4195343) (k:=8) (l:=[(201,Zaa),(269,ZmH)]) (ol:=[]) ⟨Zb6,Zzt,Tv⟩ Tryz.func200 rfl (by kernel_rfl) Tryz.call200 trivial
def Za0:En:=.tree (Zn (envX prog [(141,ZoQ),(198,Zmy),(199,Zzj),(200,Zbc)] [] 63 8) Tryz.f135)
theorem Zd9:Za prog 135 Za0:=ZI (P:=prog) (n:=63) (k:=8) (l:=[(141,ZoQ),(198,Zmy),(199,Zzj),(200,Zbc)]) (ol:=[]) ⟨Zxj,Zzh,ZKB,Zec,Tv⟩ Tryz.func135 rfl (by kernel_rfl) Tryz.call135 trivial
def ZZ:En:=.tree (Zn (envX prog [] [] 127 8) Tryz.f204)
theorem ZbL:Za prog 204 ZZ:=ZI (P:=prog) (n:=127) (k:=8) (l:=[]) (ol:=[]) trivial Tryz.func204 rfl (by kernel_rfl) Tryz.call204 trivial
def Zbb:En:=.tree (Zn (envX prog [(201,Zaa),(202,Zst),(203,Zzo),(204,ZZ),(205,Zr2),(206,Zuc)] [] 68720003071 8) Tryz.f137)
theorem Zeb:Za prog 137 Zbb:=ZI (P:=prog) (n:=68720003071) (k:=8) (l:=[(201,Zaa),(202,Zst),(203,Zzo),(204,ZZ),(205,Zr2),(206,Zuc)]) (ol:=[]) ⟨Zb6,ZF5,ZKI,ZbL,ZFR,ZHE,Tv⟩ Tryz.func137 rfl (by kernel_rfl) Tryz.call137 trivial
def ZaZ:En:=.tree (Zn (envX prog [(143,ZfY),(204,ZZ),(207,Zmu),(208,ZoP)] [] 255 8) Tryz.f140)
theorem Zd8:Za prog 140 ZaZ:=ZI (P:=prog) (n:=255) (k:=8) (l:=[(143,ZfY),(204,ZZ),(207,Zmu),(208,ZoP)]) (ol:=[]) ⟨ZmF,ZbL,Zzd,ZBG,Tv⟩ Tryz.func140 rfl (by kernel_rfl) Tryz.call140 trivial
def Za1:En:=.tree (Zn (envX prog [(83,Zdr),(135,Za0),(136,ZmQ),(137,Zbb),(138,Zty),(139,Zc1),(140,ZaZ),(141,ZoQ),(142,ZBK),(143,ZfY)] [] 255 8) Tryz.f76)
theorem ZbM:Za prog 76 Za1:=ZI (P:=prog) (n:=255) (k:=8) (l:=[(83,Zdr),(135,Za0),(136,ZmQ),(137,Zbb),(138,Zty),(139,Zc1),(140,ZaZ),(141,ZoQ),(142,ZBK),(143,ZfY)]) (ol:=[]) ⟨ZeE,Zd9,ZmP,Zeb,ZG0,Ze6,Zd8,Zxj,ZNX,ZmF,Tv⟩ Tryz.func76 rfl (by kernel_rfl) Tryz.call76 trivial
def ZaF:En:=.tree (Zn (envX prog [(120,ZjK),(134,Zy),(144,Zwd)] [] 7 8) Tryz.f77)
theorem Zbs:Za prog 77 ZaF:=ZI (P:=prog) (n:=7) (k:=8) (l:=[(120,ZjK),(134,Zy),(144,Zwd)]) (ol:=[]) ⟨ZoU,Zau,ZEb,Tv⟩ Tryz.func77 rfl (by kernel_rfl) Tryz.call77 trivial
abbrev ZOj:List Sh:=[Sh.agg (R.Pq (R.int i64) (R.Pq rcRG (R.Pq (R.int i64) (R.Pq (R.int u8) (R.Pq (R.int u8) (R.Pq R.bool rcCE)))))),Sh.one (R.sl (R.int u8))]
abbrev ZBU:Rs:=Rs.tup [Sh.agg (R.Pq (R.sl ZTE) (R.Pq (R.sl ZO6) (R.Pq (R.sl ZWa) (R.Pq (R.sl Z5) (R.Pq (R.Pq Z5 (R.Pq (R.int i64) (R.Pq (R.sl (R.int u8)) (R.Pq (RY) (R.Pq (R.int i64) R.bool))))) (R.Pq rcCE (R.Pq Zbd (R.Pq (R.Pq (R.int u16) (R.Pq (R.int u8) (R.int i64))) (R.Pq (R.int i64) (R.sl (R.Pq (R.int u8) (R.int u8)))))))))))),Sh.one (R.int i64)]
def ZRk:LS:={n:=58,Sl:=[(4,.fix (A.loc 1 0)),(8,.fix (A.loc 5 0)),(29,.code (Sh.one (R.sl Zfv))),(30,.code (Sh.one (R.int i64))),(31,.code (Sh.one (R.int i64)))],Bx:=[[.many (R.Pq (R.int i64) (R.Pq rcRG (R.Pq (R.int i64) (R.Pq (R.int u8) (R.Pq (R.int u8) (R.Pq R.bool rcCE))))))],[.many (R.Pq (R.sl ZTE) (R.Pq (R.sl ZO6) (R.Pq (R.sl ZWa) (R.Pq (R.sl Z5) (R.Pq (R.Pq Z5 (R.Pq (R.int i64) (R.Pq (R.sl (R.int u8)) (R.Pq (RY) (R.Pq (R.int i64) R.bool))))) (R.Pq rcCE (R.Pq Zbd (R.Pq (R.Pq (R.int u16) (R.Pq (R.int u8) (R.int i64))) (R.Pq (R.int i64) (R.sl (R.Pq (R.int u8) (R.int u8))))))))))))],[.code (.int i64),.code (.sl (R.Pq (R.int u16) (R.Pq (R.int u16) (R.Pq R.bool (R.int i64))))),.code (.int i64),.code (.int u8),.code (.int u8),.code .bool,.code (.sl (R.Pq (R.int u16) (R.int u8)))],[.code (.int i64),.code (.int u8),.code (.int u8),.code (.int u8),.code (.int u8),.code (.int u8),.code (.int u8),.code (.int u8),.code .bool,.code .bool,.code .bool,.code .bool,.code .bool,.code .bool,.code .bool,.code (.int u16),.code (.int u16),.code .bool,.code .bool,.code .bool,.code (.int u8),.code .bool,.code .bool,.code .bool,.code .bool,.code .bool,.code .bool,.code .bool,.code (.int i64),.code (.sl (R.int u8)),.code (.int i64),.code (.int u16),.code (.int u8),.code (.int i64),.code (.int i64),.code .bool,.code (.sl (R.Pq (R.int u16) (R.int u8))),.code (.int i64),.code .bool,.code .bool,.code .bool,.code .bool,.code (.int u8),.code (.int u8),.code .bool,.code .bool,.code .bool,.code .bool,.code .bool,.code (.int u8),.code (.int u8),.code (.int u8),.code (.int u8),.code (.int i64),.code (.int i64),.code (.int i64),.code .bool,.code (.int u16),.code (.int u8),.code (.int i64),.code (.int i64),.junk],[.many (R.Pq (R.Pq Z5 (R.Pq (R.int i64) (R.Pq (R.sl (R.int u8)) (R.Pq (RY) (R.Pq (R.int i64) R.bool))))) (R.Pq rcCE (R.Pq Zbd (R.Pq (R.Pq (R.int u16) (R.Pq (R.int u8) (R.int i64))) (R.Pq (R.int i64) (R.sl (R.Pq (R.int u8) (R.int u8))))))))],[.many (R.Pq Z5 (R.Pq (R.int i64) (R.Pq (R.sl (R.int u8)) (R.Pq (RY) (R.Pq (R.int i64) R.bool))))),.code rcCE,.many Zbd,.many (R.Pq (R.int u16) (R.Pq (R.int u8) (R.int i64))),.code (R.int i64),.tip 0,.many (R.Pq (R.int i64) (R.Pq rcRG (R.Pq (R.int i64) (R.Pq (R.int u8) (R.Pq (R.int u8) (R.Pq R.bool rcCE)))))),.tip 1,.tip 2,.tip 3,.tip 4,.many (R.Pq (R.Pq Z5 (R.Pq (R.int i64) (R.Pq (R.sl (R.int u8)) (R.Pq (RY) (R.Pq (R.int i64) R.bool))))) (R.Pq rcCE (R.Pq Zbd (R.Pq (R.Pq (R.int u16) (R.Pq (R.int u8) (R.int i64))) (R.Pq (R.int i64) (R.sl (R.Pq (R.int u8) (R.int u8)))))))),.many Z5]],Sg:=[⟨R.Pq (R.int u8) (R.int u8),194,false⟩,⟨R.Pq (R.int i64) (R.Pq (R.int u16) (R.Pq (R.int u8) (R.Pq R.bool (R.Pq R.bool (R.Pq R.bool (R.Pq R.bool (R.Pq R.bool ZTF))))))),119,false⟩,⟨R.Pq (R.int i64) (R.Pq (RY) (R.Pq (R.int i64) (R.Pq (R.int i64) (R.Pq R.bool R.bool)))),70,false⟩,⟨R.Pq (R.int i64) (R.Pq (R.int i64) (R.Pq (R.sl (R.int u8)) (R.Pq ZTF (R.Pq R.bool (R.Pq R.bool (R.Pq R.bool (R.Pq R.bool (R.Pq (R.int u16) (R.int u8))))))))),77,false⟩,⟨R.Pq (R.int i64) (R.Pq ZhP (R.Pq R.bool (R.Pq R.bool (R.Pq R.bool (R.Pq (R.int u8) rcF7))))),38,false⟩]}
def Zuk (a:List INPT×Int×Int×BRDT×RUNT×Int×List (QT7)×Int×Int×Int×Bool×List (Int×Int)×Int×Int×Int×Int×Int×Int×Int×Int×Bool×Bool×Bool×Bool×Bool×Bool×Bool×Int×Int×Bool×Bool×Bool×Int×Bool×Bool×Bool×Bool×Bool×Bool×Bool×Int×List Int×Int×Int×Int×Int×Int×Bool×List (Int×Int)×Int×Bool×Bool×Bool×Bool×Int×Int×Bool×Bool×Bool×Bool×Bool×Int×Int×Int×Int×Int×Int×Int×Bool×Int×Int×Int×Int×SYST×CORT×List (Int×Int)×PICT×(QT4)×Int×BRDT×SYST×TC×List (Int×Int)×List PINT×List ITMT×List EVTT×List TC×PUnit):RT (Option (Go1 (List INPT×Int×Int×BRDT×RUNT×Int×List (QT7)×Int×Int×Int×Bool×List (Int×Int)×Int×Int×Int×Int×Int×Int×Int×Int×Bool×Bool×Bool×Bool×Bool×Bool×Bool×Int×Int×Bool×Bool×Bool×Int×Bool×Bool×Bool×Bool×Bool×Bool×Bool×Int×List Int×Int×Int×Int×Int×Int×Bool×List (Int×Int)×Int×Bool×Bool×Bool×Bool×Int×Int×Bool×Bool×Bool×Bool×Bool×Int×Int×Int×Int×Int×Int×Int×Bool×Int×Int×Int×Int×SYST×CORT×List (Int×Int)×PICT×(QT4)×Int×BRDT×SYST×TC×List (Int×Int)×List PINT×List ITMT×List EVTT×List TC×PUnit))):=
 let x1:INPT:=R.get Zfv a.1 a.2.2.1
 let x2:=x1.1
 let x3:=a.2.2.2.2.2.2.2.2.2.2.2.2.2
 let x4:=x3.2
 let x5:=x4.2
 let x6:=x5.2
 let x7:=x6.2
 let x8:=x7.2
 let x9:=x8.2
 let x10:=x9.2
 let x11:=x10.2
 let x12:=x11.2
 let x13:=x12.2
 let x14:=x13.2
 let x15:=x14.2
 let x16:=x15.2
 let x17:=x16.2
 let x18:=x17.2
 let x19:=x18.2
 let x20:=x19.2
 let x21:=x20.2
 let x22:=x21.2
 let x23:=x22.2
 let x24:=x23.2
 let x25:=x24.2
 let x26:=x25.2
 let x27:=x26.2
 let x28:=x27.2
 let x29:=x28.2
 let x30:=x29.2
 let x31:=x30.2
 let x32:=x31.2
 let x33:=x32.2
 let x34:=x33.2
 let x35:=x34.2
 let x36:=x35.2
 let x37:=x36.2
 let x38:=x37.2
 let x39:=x38.2
 let x40:=x39.2
 let x41:=x40.2
 let x42:=x41.2
 let x43:=x42.2
 let x44:=x43.2
 let x45:=x44.2
 let x46:=x45.2
 let x47:=x46.2
 let x48:=x47.2
 let x49:=x48.2
 let x50:=x49.2
 let x51:=x50.2
 let x52:=x51.2
 let x53:=x52.2
 let x54:=x53.2
 let x55:=x54.2
 let x56:=x55.2
 let x57:=x56.2
 let x58:=x57.2
 let x59:=x58.2
 let x60:=x59.2
 let x61:=x60.2
 let x62:=x61.2
 let x63:=x62.2
 let x64:=x63.2
 let x65:=x64.1
 let x66:=x65.2
 let x67:=x66.2
 let x68:=x67.2
 let x69:=x68.1
 let x70:=x69.1
 let x71:=x70==1
 let x72:=x70==2
 let x73:=x70==3
 let x74:=x70==4
 let x75:=bif x71 then x71 else bif x72 then x72 else bif x73 then x73 else bif x74 then x74 else x70==5
 let x76:= !x75
 let x77:=x64.2
 let x78:=x77.2
 let x79:=x78.2
 let x80:=x79.2
 let x81:=x80.2
 let x82:=x81.1
 let x83:=x82.2
 let x84:=x83.1
 let x85:=smG x84
 let x86:= !x2||(x76||x85)
 let x87:= !x86
 let x88:=x1.2
 let x89:=x88.2
 let x90:=x89.1
 let x91:= !x90
 let x92:=x91&&Zbv x65==3
 let x93:=x92&&ZeB x70
 let x94:=x77.1
 let x95:=x85&&smC x94
 let x96:= !x93||(x76||x95)
 let x97:= !x96
 let x98:=ZxZ x65
 let x99:= !x98
 let x100:=x92&&Zeo x70
 let x101:= !x100
 let x102:=x70 !=7
 let x103:= !x102||x95
 let x104:=x81.2
 let x105:=x104.2
 let x106:=x105.2
 let x107:=x106.1
 let x108:=x69.2
 let x109:=x108.1
 let x110:=u8.wrap x109
 let x111:=x108.2.1
 let x112:List (Int×Int):=x107++[(x110,x111)]
 let x113:=x101||(!x103||(x102||Nat.ble (List.length x112) most))
 let x114:= !x113
 let p2:=x114::x99::x97::x87::[]
 let x115:=x101||x103
 let x116:= !x115
 let p9:=x116::p2
 let x117:=x80.1
 let x118:Int:=bif x68.2.1==7 then i64.wrap (x117+1) else 0
 let x119:=x83.2
 let x120:=x119.1
 let x121:Int:=if 100<x120 then 100 else x120
 let x122:=x79.1
 let x123:=x89.2
 let x124:=x123.2
 let x125:=x124.2
 let x126:=x125.2
 let x127:=x126.2
 let x128:=x119.2
 let x129:=x128.2
 let x130:=x129.2.1
 let x131:=x127.2
 let x132:=x131.1
 let x133:=x78.1
 let x134:=ZCb x133 x132
 let x135:LINT:=(x2&&bif x75 then decide (x118>=Zup x84 x109) else bif x70==6||x70==7 then decide (x118>=if x121>0 then x121 else 0) else decide (x118>=0),x88.1||Zgj x122,x90,x123.1,x124.1,x125.1,x126.1,x127.1,bif x130 then andI u8 x132 1==1 else vInt x134)
 let x136:=x70==8||x70==9
 let x137:= !x130
 let x138:Int:=bif x130 then x133.1 else x134.1
 let x139:=x133.2
 let x140:=x134.2
 let x141:=bif x130 then x139.1 else x140.1
 let x142:=x139.2
 let x143:=x140.2
 let x144:=bif x130 then x142.1 else x143.1
 let x145:=x142.2
 let x146:=x143.2
 let x147:=bif x130 then x145.1 else x146.1
 let x148:=x145.2
 let x149:=x146.2
 let x150:=bif x130 then x148.1 else x149.1
 let x151:=x148.2
 let x152:=x149.2
 let x153:Int:=bif x130 then x151.1 else x152.1
 let x154:=x151.2
 let x155:=x152.2
 let x156:Int:=bif x130 then x154.1 else x155.1
 let x157:=x154.2
 let x158:=x155.2
 let x159:=bif x130 then x157.1 else x158.1
 let x160:=x157.2
 let x161:=x158.2
 let x162:=bif x130 then x160.1 else x161.1
 let x163:=x160.2
 let x164:=x161.2
 let x165:=bif x130 then x163.1 else x164.1
 let x166:=x163.2
 let x167:=x164.2
 let x168:=bif x130 then x166.1 else x167.1
 let x169:=x166.2
 let x170:=x167.2
 let x171:=bif x130 then x169.1 else x170.1
 let x172:=x169.2
 let x173:=x170.2
 let x174:Int:=bif x130 then x172.1 else x173.1
 let x175:=x172.2
 let x176:=x173.2
 let x177:Int:=bif x130 then x175.1 else x176.1
 let x178:=x175.2
 let x179:=x176.2
 let x180:Int:=bif x130 then x178.1 else x179.1
 let x181:=x178.2
 let x182:=x179.2
 let x183:Int:=bif x130 then x181.1 else x182.1
 let x184:=x181.2
 let x185:=x182.2
 let x186:Int:=bif x130 then x184.1 else x185.1
 let x187:=x184.2
 let x188:=x185.2
 let x189:Int:=bif x130 then x187.1 else x188.1
 let x190:=x187.2
 let x191:=x188.2
 let x192:Int:=bif x130 then x190.1 else x191.1
 let x193:=bif x130 then x190.2 else x191.2
 let x194:PICT:=(x138,x141,x144,x147,x150,x153,x156,x159,x162,x165,x168,x171,x174,x177,x180,x183,x186,x189,x192,x193)
 let x195:=vAck x194
 let x196:=x131.2
 let x197:=u8.wrap (x110-x128.1)
 let x198:=x137&&decide (x197<2)
 let x199:=x197==1
 let x200:=bif x137 then x199 else x199
 let x201:=ZOD x194 x200
 let x202:=u8.wrap (x110-x129.1)
 let x203:=decide (x202<4)
 let x204:=i64.wrap x202
 let x205:Int:=bif x93 then bif x75 then Zva x84 x94 x109 else bif x136 then bif x137 then x195.2 else x196 else bif x198 then x201.2 else bif x203 then ZB9 x122 x204 else x196 else 0
 let x206:=clkX x65 x135 x205
 let x207:=x206.2
 let x208:=x122.1
 let x209:=ZqN x122 x204 x111
 let x210:Int:=bif x100 then bif x102 then x208 else bif x198 then x208 else bif x203 then x209.1 else x208 else x208
 let x211:=x122.2
 let x212:=x211.1
 let x213:=x209.2
 let x214:Int:=bif x100 then bif x102 then x212 else bif x198 then x212 else bif x203 then x213.1 else x212 else x212
 let x215:=x211.2
 let x216:Int:=bif x100 then bif x102 then x215 else bif x198 then x215 else bif x203 then x213.2 else x215 else x215
 let x217:QT4:=(x210,x214,x216)
 let x218:=x207.2.2.2.2.2.2.2.2.2.2.2.2.2.2.2.1&&Zgj x217
 let x219:List (Int×Int):=bif x100 then bif x102 then ZiJ x84 x94 x109 x111 else x94 else x94
 let x220:= !x218||x85&&smC x219
 let x221:= !x220
 let p17:=x221::p9
 let x222:=x106.2
 let x223:=x222.1
 let x224:List PINT:=x223++[x207]
 let x225:=Nat.ble (List.length x224) most
 let x226:= !x225
 let p25:=x226::p17
 let x227:=x207.1
 let x228:=x227 !=10
 let x229:= !x228||x98&&x91
 let x230:= !x229
 let p28:=x230::p25
 let x231:=x227==1
 let x232:=x222.2
 let x233:=x232.1
 let x234:=Zuh x65 x135 x205
 let x235:=x234.2
 let x236:=x235.2
 let x237:=x236.2
 let x238:=x237.1
 let x239:=x238.2
 let x240:=x239.2
 let x241:QT22:=(bif x228 then x238.1 else 0,bif x228 then x239.1 else 0,bif x228 then x240.1 else 0,bif x228 then x240.2 else 0)
 let x242:=x65.1.2
 let x243:=x242.2
 let x244:=x243.1
 let x245:=x243.2.2.2.2
 let x246:=x245.2
 let x247:=x246.2
 let x248:=x247.2
 let x249:=x248.2.2.2
 let x250:Int×Int×Bool×Bool:=(0,1,x244,x249)
 let x251:List ITMT:=x233++[(1,x241,x250)]
 let x252:= !x231||Nat.ble (List.length x251) most
 let x253:= !x252
 let x254:=x227==7
 let x255:= !x254
 let x256:Nat:=List.length x233
 let x257:=iN x256
 let x258:=i64.wrap (x257-1)
 let x259:=Zf x258 x256
 let x260:=x231||(x255||(!x259||x259))
 let x261:= !x260
 let x262:=x231||(x255||x259)
 let x263:= !x262
 let x264:=x227==2
 let x265:=x227==3
 let x266:=x227==4
 let x267:=x227==5
 let x268:=bif x264 then x264 else bif x265 then x265 else bif x266 then x266 else bif x267 then x267 else x227==6
 let x269:= !x268
 let x270:=x231||(x254||(x269||x259))
 let x271:= !x270
 let p6:=x271::x263::x261::x253::[]
 let x272:ITMT:=R.get ZO6 x233 x258
 let x273:=x272.1
 let x274:=x272.2
 let x275:=x274.1
 let x276:=x274.2
 let x277:=x276.1
 let x278:=x276.2
 let x279:=x278.2
 let x280:=setI x233 x258 (x273,x275,x277,x227,x279)
 let x281:=x231||(x254||(x269||Zf x258 (List.length x280)))
 let x282:= !x281
 let p11:=x282::p6
 let x283:=x227==8
 let x284:= !x283
 let p1:=x284::x268::x254::x231::[]
 let x285:=decide (x257>0)
 let x286:= !x285
 let x287:=x286||x259
 let x288:= !x287
 let p15:=x285::x288::p1
 let x289:=x279.1==x244&&x279.2==x249
 let x290:=x273==2&&x289
 let p20:=x290::x286::x288::p1
 let x291:TY×Int×Int×Bool×Bool:=((0,0,0,0),x250)
 let x292:List ITMT:=x233++[(2,x291)]
 let x293:=Nat.ble (List.length x292) most
 let x294:=orR p20 x293
 let x295:= !x294
 let p16:=x295::p11
 let x296:=orR p15 x293
 let x297:= !x296
 let p24:=x297::p16
 let x298:=orR p1 x287
 let x299:= !x298
 let p26:=x299::p24
 let x300:=x227==9
 let x301:= !x300
 let p12:=x301::x283::x268::x254::x231::[]
 let p21:=x285::x288::p12
 let x302:=x273==3&&x289
 let p31:=x302::x286::x288::p12
 let x303:List ITMT:=x233++[(3,(0,x242.1.2.2.2.2.2.2.2.2.2,0,0),x250)]
 let x304:=Nat.ble (List.length x303) most
 let x305:=orR p31 x304
 let x306:= !x305
 let p34:=x306::p26
 let x307:=orR p21 x304
 let x308:= !x307
 let p40:=x308::p34
 let x309:=orR p12 x287
 let x310:= !x309
 let p44:=x310::p40
 let x311:=x227==10
 let x312:= !x311
 let p32:=x285::x288::x312::x300::x283::x268::x254::x231::[]
 let x313:=x273==4&&x289
 let p33:=x313::x286::x288::x312::x300::x283::x268::x254::x231::[]
 let x314:List ITMT:=x233++[(4,x291)]
 let x315:=Nat.ble (List.length x314) most
 let x316:=orR p33 x315
 let x317:= !x316
 let p48:=x317::p44
 let x318:=orR p32 x315
 let p64:=x312::x300::x283::x268::x254::x231::(!x318)::p48
 let x319:=orR p64 x287
 let x320:= !x319
 let x321:=orR p48 x318
 let x322:= !x321
 let x323:=orR p44 x316
 let x324:= !x323
 let x325:=orR p40 x309
 let x326:= !x325
 let p4:=x326::x324::x322::x320::[]
 let x327:=orR p34 x307
 let x328:= !x327
 let p10:=x328::p4
 let x329:=orR p26 x305
 let x330:= !x329
 let p18:=x330::p10
 let x331:=orR p24 x298
 let x332:= !x331
 let p23:=x332::p18
 let x333:=orR p16 x296
 let x334:= !x333
 let p30:=x334::p23
 let x335:=orR p11 x294
 let x336:= !x335
 let p35:=x336::p30
 let x337:=orR p6 x281
 let x338:= !x337
 let p39:=x338::p35
 let x339:=x253||(x261||(x263||x270))
 let x340:= !x339
 let p43:=x340::p39
 let x341:=x253||(x261||x262)
 let x342:= !x341
 let p46:=x342::p43
 let x343:=x253||x260
 let p52:=(!x343)::p46
 let x344:=orR p52 x252
 let x345:= !x344
 let p37:=x345::p28
 let x346:=orR p46 x343
 let x347:= !x346
 let p38:=x347::p37
 let x348:=orR p43 x341
 let x349:= !x348
 let p45:=x349::p38
 let x350:=orR p39 x339
 let x351:= !x350
 let p49:=x351::p45
 let x352:=orR p35 x337
 let x353:= !x352
 let p50:=x353::p49
 let x354:=orR p30 x335
 let x355:= !x354
 let p53:=x355::p50
 let x356:=orR p23 x333
 let x357:= !x356
 let p55:=x357::p53
 let x358:=orR p18 x331
 let x359:= !x358
 let p57:=x359::p55
 let x360:=orR p10 x329
 let x361:= !x360
 let p60:=x361::p57
 let x362:=orR p4 x327
 let x363:= !x362
 let p62:=x363::p60
 let x364:=x320||(x322||(x324||x325))
 let x365:= !x364
 let p65:=x365::p62
 let x366:=x320||(x322||x323)
 let x367:= !x366
 let p67:=x367::p65
 let x368:=x320||x321
 let x369:= !x368
 let p68:=x369::p67
 let p70:=x320::p68
 let x370:=ZQo x65
 let x371:= !x370
 let x372:=x67.1
 let x373:=x371||Nat.ble (List.length x372) most
 let x374:= !x373
 let x375:=x232.2
 let x376:=x375.1
 let x377:=x66.1
 let x378:LINT×Bool×Bool×Bool×Bool×Int×Int:=(x135,x246.1,x245.1,x248.1,x247.1,0,0)
 let x379:List EVTT:=x376++[(6,x377,x372,x378)]
 let x380:=Nat.ble (List.length x379) most
 let x381:=x375.2.1
 let x382:=x105.1
 let x383:List TC:=x381++[x382]
 let x384:=x371||(!x380||Nat.ble (List.length x383) most)
 let x385:= !x384
 let x386:=x371||x380
 let x387:= !x386
 let p5:=x387::x385::x374::x312::[]
 let x388:List EVTT:=(bif x370 then x379 else x376)++[(4,0,[],x378)]
 let x389:=Nat.ble (List.length x388) most
 let x390:=x206.1
 let x391:=x390.1
 let x392:List TC:=(bif x370 then x383 else x381)++[x391]
 let x393:= !x389||Nat.ble (List.length x392) most
 let p13:=(!x393)::p5
 let x394:=orR p13 x389
 let x395:= !x394
 let x396:=orR p5 x393
 let x397:= !x396
 let x398:=x312||(x374||(x385||x386))
 let x399:= !x398
 let x400:=x312||(x374||x384)
 let x401:= !x400
 let p3:=x401::x399::x397::x395::[]
 let x402:=x312||x373
 let x403:= !x402
 let p8:=x403::p3
 let x404:=x228&&x234.1
 let x405:= !x404
 let x406:=x237.2.2.2.2.2.2.2
 let x407:=x406.2
 let x408:=x407.2
 let x409:List EVTT:=x376++[(bif x377==0 then 1 else bif x377==5 then 2 else 3,x377,bif x228 then x236.1 else [],x135,x228&&x407.1,x228&&x406.1,x228&&x408.2.1,x228&&x408.1,0,0)]
 let x410:=Nat.ble (List.length x409) most
 let x411:=x235.1
 let x412:Int:=bif x228 then x411.1 else 0
 let x413:=x411.2
 let x414:=x413.1
 let x415:Int:=bif x228 then x414.1 else 0
 let x416:=x414.2
 let x417:Int:=bif x228 then x416.1 else 0
 let x418:=x416.2
 let x419:Int:=bif x228 then x418.1 else 0
 let x420:=x418.2
 let x421:Int:=bif x228 then x420.1 else 0
 let x422:=x420.2
 let x423:Int:=bif x228 then x422.1 else 0
 let x424:=x422.2
 let x425:Int:=bif x228 then x424.1 else 0
 let x426:=x424.2
 let x427:Int:=bif x228 then x426.1 else 0
 let x428:=x426.2
 let x429:=x428.1
 let x430:=x228&&x429.1
 let x431:=x429.2
 let x432:=x228&&x431.1
 let x433:=x431.2
 let x434:=x228&&x433.1
 let x435:=x433.2
 let x436:=x228&&x435.1
 let x437:=x435.2
 let x438:=x228&&x437.1
 let x439:=x437.2
 let x440:=x228&&x439.1
 let x441:=x228&&x439.2
 let x442:=x428.2
 let x443:Int:=bif x228 then x442.1 else 0
 let x444:Int:=bif x228 then x442.2 else 0
 let x445:=x413.2
 let x446:=x228&&x445.1
 let x447:=x445.2
 let x448:=x228&&x447.1
 let x449:=x447.2
 let x450:=x228&&x449.1
 let x451:=x449.2
 let x452:Int:=bif x228 then x451.1 else 0
 let x453:=x451.2
 let x454:=x228&&x453.1
 let x455:=x453.2
 let x456:=x228&&x455.1
 let x457:=x455.2
 let x458:=x228&&x457.1
 let x459:=x457.2
 let x460:=x228&&x459.1
 let x461:=x459.2
 let x462:=x228&&x461.1
 let x463:=x461.2
 let x464:=x228&&x463.1
 let x465:=x228&&x463.2
 let x466:List TC:=x381++[(x412,(x415,x417,x419,x421,x423,x425,x427,(x430,x432,x434,x436,x438,x440,x441),x443,x444),x446,x448,x450,x452,x454,x456,x458,x460,x462,x464,x465)]
 let x467:=x311||(x405||(!x410||Nat.ble (List.length x466) most))
 let p27:=x405::x311::(!x467)::p8
 let x468:=orR p27 x410
 let x469:= !x468
 let p72:=x469::p70
 let x470:=orR p8 x467
 let x471:= !x470
 let p75:=x471::p72
 let x472:=orR p3 x402
 let x473:= !x472
 let p77:=x473::p75
 let x474:=x395||(x397||(x399||x400))
 let x475:= !x474
 let p78:=x475::p77
 let x476:=x395||(x397||x398)
 let x477:= !x476
 let p80:=x477::p78
 let x478:=x395||x396
 let x479:= !x478
 let p83:=x479::p80
 let p84:=x395::p83
 let x480:=ZhB x217
 let x481:=x480.2
 let x482:=x218&&x481.2
 let x483:= !x482
 let x484:List EVTT:=bif x311 then x388 else bif x404 then x409 else x376
 let x485:=x481.1
 let x486:=x485.1
 let x487:=x485.2
 let x488:List EVTT:=x484++[(5,0,[],(false,false,false,false,false,false,false,false,false),false,false,false,false,bif x218 then x486 else 0,bif x218 then x487 else 0)]
 let x489:=Nat.ble (List.length x488) most
 let x490:List TC:=bif x311 then x392 else bif x404 then x466 else x381
 let x491:Int:=bif x311 then x391.1 else bif x404 then x412 else x382.1
 let x492:=x391.2
 let x493:=x492.1
 let x494:=x382.2
 let x495:=x494.1
 let x496:Int:=bif x311 then x493.1 else bif x404 then x415 else x495.1
 let x497:=x493.2
 let x498:=x495.2
 let x499:Int:=bif x311 then x497.1 else bif x404 then x417 else x498.1
 let x500:=x497.2
 let x501:=x498.2
 let x502:Int:=bif x311 then x500.1 else bif x404 then x419 else x501.1
 let x503:=x500.2
 let x504:=x501.2
 let x505:Int:=bif x311 then x503.1 else bif x404 then x421 else x504.1
 let x506:=x503.2
 let x507:=x504.2
 let x508:Int:=bif x311 then x506.1 else bif x404 then x423 else x507.1
 let x509:=x506.2
 let x510:=x507.2
 let x511:Int:=bif x311 then x509.1 else bif x404 then x425 else x510.1
 let x512:=x509.2
 let x513:=x510.2
 let x514:Int:=bif x311 then x512.1 else bif x404 then x427 else x513.1
 let x515:=x512.2
 let x516:=x515.1
 let x517:=x513.2
 let x518:=x517.1
 let x519:=bif x311 then x516.1 else bif x404 then x430 else x518.1
 let x520:=x516.2
 let x521:=x518.2
 let x522:=bif x311 then x520.1 else bif x404 then x432 else x521.1
 let x523:=x520.2
 let x524:=x521.2
 let x525:=bif x311 then x523.1 else bif x404 then x434 else x524.1
 let x526:=x523.2
 let x527:=x524.2
 let x528:=bif x311 then x526.1 else bif x404 then x436 else x527.1
 let x529:=x526.2
 let x530:=x527.2
 let x531:=bif x311 then x529.1 else bif x404 then x438 else x530.1
 let x532:=x529.2
 let x533:=x530.2
 let x534:=bif x311 then x532.1 else bif x404 then x440 else x533.1
 let x535:=bif x311 then x532.2 else bif x404 then x441 else x533.2
 let x536:=x515.2
 let x537:=x517.2
 let x538:Int:=bif x311 then x536.1 else bif x404 then x443 else x537.1
 let x539:Int:=bif x311 then x536.2 else bif x404 then x444 else x537.2
 let x540:=x492.2
 let x541:=x494.2
 let x542:=bif x311 then x540.1 else bif x404 then x446 else x541.1
 let x543:=x540.2
 let x544:=x541.2
 let x545:=bif x311 then x543.1 else bif x404 then x448 else x544.1
 let x546:=x543.2
 let x547:=x544.2
 let x548:=bif x311 then x546.1 else bif x404 then x450 else x547.1
 let x549:=x546.2
 let x550:=x547.2
 let x551:Int:=bif x311 then x549.1 else bif x404 then x452 else x550.1
 let x552:=x549.2
 let x553:=x550.2
 let x554:=bif x311 then x552.1 else bif x404 then x454 else x553.1
 let x555:=x552.2
 let x556:=x553.2
 let x557:=bif x311 then x555.1 else bif x404 then x456 else x556.1
 let x558:=x555.2
 let x559:=x556.2
 let x560:=bif x311 then x558.1 else bif x404 then x458 else x559.1
 let x561:=x558.2
 let x562:=x559.2
 let x563:=bif x311 then x561.1 else bif x404 then x460 else x562.1
 let x564:=x561.2
 let x565:=x562.2
 let x566:=bif x311 then x564.1 else bif x404 then x462 else x565.1
 let x567:=x564.2
 let x568:=x565.2
 let x569:=bif x311 then x567.1 else bif x404 then x464 else x568.1
 let x570:=bif x311 then x567.2 else bif x404 then x465 else x568.2
 let x571:List TC:=x490++[(x491,(x496,x499,x502,x505,x508,x511,x514,(x519,x522,x525,x528,x531,x534,x535),x538,x539),x542,x545,x548,x551,x554,x557,x560,x563,x566,x569,x570)]
 let x572:=x483||(!x489||Nat.ble (List.length x571) most)
 let p88:=x483::(!x572)::p84
 let x573:=orR p88 x489
 let x574:= !x573
 let x575:=orR p84 x572
 let x576:= !x575
 let x577:=orR p83 x394
 let x578:= !x577
 let p7:=x578::x576::x574::(!Zf a.2.2.1 (List.length a.1))::[]
 let x579:=orR p80 x478
 let x580:= !x579
 let p14:=x580::p7
 let x581:=orR p78 x476
 let x582:= !x581
 let p19:=x582::p14
 let x583:=orR p77 x474
 let x584:= !x583
 let p22:=x584::p19
 let x585:=orR p75 x472
 let x586:= !x585
 let p29:=x586::p22
 let x587:=orR p72 x470
 let x588:= !x587
 let p36:=x588::p29
 let x589:=orR p70 x468
 let x590:= !x589
 let p41:=x590::p36
 let x591:=orR p68 x319
 let x592:= !x591
 let p42:=x592::p41
 let x593:=orR p67 x368
 let x594:= !x593
 let p47:=x594::p42
 let x595:=orR p65 x366
 let x596:= !x595
 let p51:=x596::p47
 let x597:=orR p62 x364
 let x598:= !x597
 let p54:=x598::p51
 let x599:=orR p60 x362
 let x600:= !x599
 let p56:=x600::p54
 let x601:=orR p57 x360
 let x602:= !x601
 let p58:=x602::p56
 let x603:=orR p55 x358
 let x604:= !x603
 let p59:=x604::p58
 let x605:=orR p53 x356
 let x606:= !x605
 let p61:=x606::p59
 let x607:=orR p50 x354
 let x608:= !x607
 let p63:=x608::p61
 let x609:=orR p49 x352
 let x610:= !x609
 let p66:=x610::p63
 let x611:=orR p45 x350
 let x612:= !x611
 let p69:=x612::p66
 let x613:=orR p38 x348
 let x614:= !x613
 let p71:=x614::p69
 let x615:=orR p37 x346
 let x616:= !x615
 let p73:=x616::p71
 let x617:=orR p28 x344
 let x618:= !x617
 let p74:=x618::p73
 let x619:=orR p25 x229
 let x620:= !x619
 let p76:=x620::p74
 let x621:=orR p17 x225
 let x622:= !x621
 let p79:=x622::p76
 let x623:=orR p9 x220
 let x624:= !x623
 let p81:=x624::p79
 let x625:=orR p2 x115
 let x626:= !x625
 let p82:=x626::p81
 let x627:=x87||(x97||(x99||x113))
 let x628:= !x627
 let p85:=x628::p82
 let x629:=x87||(x97||x98)
 let x630:= !x629
 let p86:=x630::p85
 let x631:=x87||x96
 let p87:=(!x631)::p86
 let x632:=a.2.2.2.2.2.2.2.2.2.2.2.2.1
 let x633:=x3.1
 let x634:=x4.1
 let x635:=x5.1
 let x636:=x6.1
 let x637:=x7.1
 let x638:=x8.1
 let x639:=x9.1
 let x640:=x10.1
 let x641:=x11.1
 let x642:=x12.1
 let x643:=x13.1
 let x644:=x14.1
 let x645:=x15.1
 let x646:=x16.1
 let x647:=x17.1
 let x648:=x18.1
 let x649:=x19.1
 let x650:=x20.1
 let x651:=x21.1
 let x652:=x22.1
 let x653:=x23.1
 let x654:=x24.1
 let x655:=x25.1
 let x656:=x26.1
 let x657:=x27.1
 let x658:=x28.1
 let x659:=x29.1
 let x660:=x30.1
 let x661:=x31.1
 let x662:=x32.1
 let x663:=x33.1
 let x664:=x34.1
 let x665:=x35.1
 let x666:=x36.1
 let x667:=x37.1
 let x668:=x38.1
 let x669:=x39.1
 let x670:=x40.1
 let x671:=x41.1
 let x672:=x42.1
 let x673:=x43.1
 let x674:=x44.1
 let x675:=x45.1
 let x676:=x46.1
 let x677:=x47.1
 let x678:=x48.1
 let x679:=x49.1
 let x680:=x50.1
 let x681:=x51.1
 let x682:=x52.1
 let x683:=x53.1
 let x684:=x54.1
 let x685:=x55.1
 let x686:=x56.1
 let x687:=x57.1
 let x688:=x58.1
 let x689:=x59.1
 let x690:=x60.1
 let x691:=x61.1
 let x692:=x62.1
 let x693:=x63.1
 let x694:=x195.1
 let x695:=x201.1
 let x696:Int:=bif x93 then bif x75 then x138 else bif x136 then bif x137 then x694.1 else x138 else bif x198 then x695.1 else x138 else x138
 let x697:=x694.2
 let x698:=x695.2
 let x699:=bif x93 then bif x75 then x141 else bif x136 then bif x137 then x697.1 else x141 else bif x198 then x698.1 else x141 else x141
 let x700:=x697.2
 let x701:=x698.2
 let x702:=bif x93 then bif x75 then x144 else bif x136 then bif x137 then x700.1 else x144 else bif x198 then x701.1 else x144 else x144
 let x703:=x700.2
 let x704:=x701.2
 let x705:=bif x93 then bif x75 then x147 else bif x136 then bif x137 then x703.1 else x147 else bif x198 then x704.1 else x147 else x147
 let x706:=x703.2
 let x707:=x704.2
 let x708:=bif x93 then bif x75 then x150 else bif x136 then bif x137 then x706.1 else x150 else bif x198 then x707.1 else x150 else x150
 let x709:=x706.2
 let x710:=x707.2
 let x711:Int:=bif x93 then bif x75 then x153 else bif x136 then bif x137 then x709.1 else x153 else bif x198 then x710.1 else x153 else x153
 let x712:=x709.2
 let x713:=x710.2
 let x714:Int:=bif x93 then bif x75 then x156 else bif x136 then bif x137 then x712.1 else x156 else bif x198 then x713.1 else x156 else x156
 let x715:=x712.2
 let x716:=x713.2
 let x717:=bif x93 then bif x75 then x159 else bif x136 then bif x137 then x715.1 else x159 else bif x198 then x716.1 else x159 else x159
 let x718:=x715.2
 let x719:=x716.2
 let x720:=bif x93 then bif x75 then x162 else bif x136 then bif x137 then x718.1 else x162 else bif x198 then x719.1 else x162 else x162
 let x721:=x718.2
 let x722:=x719.2
 let x723:=bif x93 then bif x75 then x165 else bif x136 then bif x137 then x721.1 else x165 else bif x198 then x722.1 else x165 else x165
 let x724:=x721.2
 let x725:=x722.2
 let x726:=bif x93 then bif x75 then x168 else bif x136 then bif x137 then x724.1 else x168 else bif x198 then x725.1 else x168 else x168
 let x727:=x724.2
 let x728:=x725.2
 let x729:=bif x93 then bif x75 then x171 else bif x136 then bif x137 then x727.1 else x171 else bif x198 then x728.1 else x171 else x171
 let x730:=x727.2
 let x731:=x728.2
 let x732:Int:=bif x93 then bif x75 then x174 else bif x136 then bif x137 then x730.1 else x174 else bif x198 then x731.1 else x174 else x174
 let x733:=x730.2
 let x734:=x731.2
 let x735:Int:=bif x93 then bif x75 then x177 else bif x136 then bif x137 then x733.1 else x177 else bif x198 then x734.1 else x177 else x177
 let x736:=x733.2
 let x737:=x734.2
 let x738:Int:=bif x93 then bif x75 then x180 else bif x136 then bif x137 then x736.1 else x180 else bif x198 then x737.1 else x180 else x180
 let x739:=x736.2
 let x740:=x737.2
 let x741:Int:=bif x93 then bif x75 then x183 else bif x136 then bif x137 then x739.1 else x183 else bif x198 then x740.1 else x183 else x183
 let x742:=x739.2
 let x743:=x740.2
 let x744:Int:=bif x93 then bif x75 then x186 else bif x136 then bif x137 then x742.1 else x186 else bif x198 then x743.1 else x186 else x186
 let x745:=x742.2
 let x746:=x743.2
 let x747:Int:=bif x93 then bif x75 then x189 else bif x136 then bif x137 then x745.1 else x189 else bif x198 then x746.1 else x189 else x189
 let x748:=x745.2
 let x749:=x746.2
 let x750:Int:=bif x93 then bif x75 then x192 else bif x136 then bif x137 then x748.1 else x192 else bif x198 then x749.1 else x192 else x192
 let x751:=bif x93 then bif x75 then x193 else bif x136 then bif x137 then x748.2 else x193 else bif x198 then x749.2 else x193 else x193
 let x752:=ZB7 (x696,x699,x702,x705,x708,x711,x714,x717,x720,x723,x726,x729,x732,x735,x738,x741,x744,x747,x750,x751) x200 x111
 let x753:=x752.2
 let x754:=x753.2
 let x755:=x754.2
 let x756:=x755.2
 let x757:=x756.2
 let x758:=x757.2
 let x759:=x758.2
 let x760:=x759.2
 let x761:=x760.2
 let x762:=x761.2
 let x763:=x762.2
 let x764:=x763.2
 let x765:=x764.2
 let x766:=x765.2
 let x767:=x766.2
 let x768:=x767.2
 let x769:=x768.2
 let x770:=x769.2
 let x771:=x480.1
 let x772:=x771.2
 let x773:=x104.1
 let x774:ITMT:=R.get ZO6 x280 x258
 let x775:=setI x233 x258 (x273,x275,x277,i64.wrap (x278.1+1),x279)
 .br (decide (a.2.2.1<a.2.1)) (.br (orR p87 x86) (.br (orR p86 x631) (.br (orR p85 x629) (.br (orR p82 x627) (.br (orR p81 x625) (.br (orR p79 x623) (.br (orR p76 x621) (.br (orR p74 x619) (.br (orR p73 x617) (.br (orR p71 x615) (.br (orR p69 x613) (.br (orR p66 x611) (.br (orR p63 x609) (.br (orR p61 x607) (.br (orR p59 x605) (.br (orR p58 x603) (.br (orR p56 x601) (.br (orR p54 x599) (.br (orR p51 x597) (.br (orR p47 x595) (.br (orR p42 x593) (.br (orR p41 x591) (.br (orR p36 x589) (.br (orR p29 x587) (.br (orR p22 x585) (.br (orR p19 x583) (.br (orR p14 x581) (.br (orR p7 x579) (.br (!Zf a.2.2.1 (List.length a.1)||(x574||(x576||x577))) (.br (!Zf a.2.2.1 (List.length a.1)||(x574||x575)) (.br (!Zf a.2.2.1 (List.length a.1)||x573) (.br (Zf a.2.2.1 (List.length a.1)) (.Lf (some (Go1.cont (a.1,a.2.1,i64.wrap (a.2.2.1+1),a.2.2.2.1,a.2.2.2.2.1,a.2.2.2.2.2.1,a.2.2.2.2.2.2.1,a.2.2.2.2.2.2.2.1,a.2.2.2.2.2.2.2.2.1,a.2.2.2.2.2.2.2.2.2.1,a.2.2.2.2.2.2.2.2.2.2.1,a.2.2.2.2.2.2.2.2.2.2.2.1,x632,x633,x634,x635,x636,x637,x638,x639,x640,x641,x642,x643,x644,x645,x646,x647,x648,x649,x650,x651,x652,x653,x654,x655,x656,x657,x658,x659,x660,x661,x662,x663,x664,x665,x666,x667,x668,x669,x670,x671,x672,x673,x674,x675,x676,x677,x678,x679,x680,x681,x682,x683,x684,x685,x686,x687,x688,x689,x690,x691,x692,x693,x390,bif x218 then ZiJ x84 x219 x486 x487 else x219,(bif x100 then bif x102 then x696 else bif x198 then x752.1 else x696 else x696,bif x100 then bif x102 then x699 else bif x198 then x753.1 else x699 else x699,bif x100 then bif x102 then x702 else bif x198 then x754.1 else x702 else x702,bif x100 then bif x102 then x705 else bif x198 then x755.1 else x705 else x705,bif x100 then bif x102 then x708 else bif x198 then x756.1 else x708 else x708,bif x100 then bif x102 then x711 else bif x198 then x757.1 else x711 else x711,bif x100 then bif x102 then x714 else bif x198 then x758.1 else x714 else x714,bif x100 then bif x102 then x717 else bif x198 then x759.1 else x717 else x717,bif x100 then bif x102 then x720 else bif x198 then x760.1 else x720 else x720,bif x100 then bif x102 then x723 else bif x198 then x761.1 else x723 else x723,bif x100 then bif x102 then x726 else bif x198 then x762.1 else x726 else x726,bif x100 then bif x102 then x729 else bif x198 then x763.1 else x729 else x729,bif x100 then bif x102 then x732 else bif x198 then x764.1 else x732 else x732,bif x100 then bif x102 then x735 else bif x198 then x765.1 else x735 else x735,bif x100 then bif x102 then x738 else bif x198 then x766.1 else x738 else x738,bif x100 then bif x102 then x741 else bif x198 then x767.1 else x741 else x741,bif x100 then bif x102 then x744 else bif x198 then x768.1 else x744 else x744,bif x90 then 0 else bif x100 then bif x102 then x747 else bif x198 then x769.1 else x747 else x747,bif x100 then bif x102 then x750 else bif x198 then x770.1 else x750 else x750,bif x100 then bif x102 then x751 else bif x198 then x770.2 else x751 else x751),(bif x218 then x771.1 else x210,bif x218 then x772.1 else x214,bif x90 then 0 else bif x218 then x772.2 else x216),x118,x82,x773,(bif x482 then x491 else x491,(bif x482 then x496 else x496,bif x482 then x499 else x499,bif x482 then x502 else x502,bif x482 then x505 else x505,bif x482 then x508 else x508,bif x482 then x511 else x511,bif x482 then x514 else x514,(bif x482 then x519 else x519,bif x482 then x522 else x522,bif x482 then x525 else x525,bif x482 then x528 else x528,bif x482 then x531 else x531,bif x482 then x534 else x534,bif x482 then x535 else x535),bif x482 then x538 else x538,bif x482 then x539 else x539),bif x482 then x542 else x542,bif x482 then x545 else x545,bif x482 then x548 else x548,bif x482 then x551 else x551,bif x482 then x554 else x554,bif x482 then x557 else x557,bif x482 then x560 else x560,bif x482 then x563 else x563,bif x482 then x566 else x566,bif x482 then x569 else x569,bif x482 then x570 else x570),bif x100 then bif x102 then x107 else x112 else x107,x224,bif x231 then x251 else bif x254 then setI x233 x258 (x273,x275,i64.wrap (x277+1),x278) else bif x268 then setI x280 x258 (x774.1,x241,x774.2.2) else bif x283 then bif x285 then bif x290 then x775 else x292 else x292 else bif x300 then bif x285 then bif x302 then x775 else x303 else x303 else bif x311 then bif x285 then bif x313 then x775 else x314 else x314 else x233,bif x482 then x488 else x484,bif x482 then x571 else x490,PUnit.unit)))) (.Lf none)) (.Lf none)) (.Lf none)) (.Lf none)) (.Lf none)) (.Lf none)) (.Lf none)) (.Lf none)) (.Lf none)) (.Lf none)) (.Lf none)) (.Lf none)) (.Lf none)) (.Lf none)) (.Lf none)) (.Lf none)) (.Lf none)) (.Lf none)) (.Lf none)) (.Lf none)) (.Lf none)) (.Lf none)) (.Lf none)) (.Lf none)) (.Lf none)) (.Lf none)) (.Lf none)) (.Lf none)) (.Lf none)) (.Lf none)) (.Lf none)) (.Lf none)) (.Lf (some (Go1.brk (a.1,a.2.1,a.2.2.1,a.2.2.2.1,a.2.2.2.2.1,a.2.2.2.2.2.1,a.2.2.2.2.2.2.1,a.2.2.2.2.2.2.2.1,a.2.2.2.2.2.2.2.2.1,a.2.2.2.2.2.2.2.2.2.1,a.2.2.2.2.2.2.2.2.2.2.1,a.2.2.2.2.2.2.2.2.2.2.2.1,x632,x633,x634,x635,x636,x637,x638,x639,x640,x641,x642,x643,x644,x645,x646,x647,x648,x649,x650,x651,x652,x653,x654,x655,x656,x657,x658,x659,x660,x661,x662,x663,x664,x665,x666,x667,x668,x669,x670,x671,x672,x673,x674,x675,x676,x677,x678,x679,x680,x681,x682,x683,x684,x685,x686,x687,x688,x689,x690,x691,x692,x693,x65,x94,x133,x122,x117,x82,x773,x382,x107,x223,x233,x376,x381,PUnit.unit))))
def ZE1:Ora:=Zbo false ZRk Zuk (λa=>1000000000000)
theorem ZHG:Za3 (envX prog [(48,Zgi),(74,ZiS),(75,ZaW),(76,Za1),(77,ZaF)] [] 2047 8) (.block 0 (.loop (Z2 Tryz.f23.body 0))) ZE1:=
 loopP ⟨Zg5,ZjS,ZbK,ZbM,Zbs,Tv⟩
def ZOk (b:BRDT) (l:List Int):RT (Option (RUNT×Int)):=
 let x1:TC:=(0,(0,0,0,0,0,0,0,(false,false,false,false,false,false,false),0,0),false,false,false,0,false,false,false,false,false,false,false)
 let x2:CORT:=(x1,0,[],(0,0,0,0),0,false)
 let x3:PICT:=(0,false,false,false,false,0,0,false,false,false,false,false,0,0,0,0,0,0,0,false)
 let x4:SYST:=(x2,[],x3,(0,0,0),0,[])
 let x5:RUNT:=([],[],[],[],x4)
 let x6:List INPT×Int×Int×BRDT×RUNT×Int×List (QT7)×Int×Int×Int×Bool×List (Int×Int)×Int×Int×Int×Int×Int×Int×Int×Int×Bool×Bool×Bool×Bool×Bool×Bool×Bool×Int×Int×Bool×Bool×Bool×Int×Bool×Bool×Bool×Bool×Bool×Bool×Bool×Int×List Int×Int×Int×Int×Int×Int×Bool×List (Int×Int)×Int×Bool×Bool×Bool×Bool×Int×Int×Bool×Bool×Bool×Bool×Bool×Int×Int×Int×Int×Int×Int×Int×Bool×Int×Int×Int×Int×SYST×CORT×List (Int×Int)×PICT×(QT4)×Int×BRDT×SYST×TC×List (Int×Int)×List PINT×List ITMT×List EVTT×List TC×PUnit:=(decX l,iN (List.length (decX l)),0,b,x5,b.1,b.2.1,b.2.2.1,b.2.2.2.1,b.2.2.2.2.1,b.2.2.2.2.2.1,b.2.2.2.2.2.2,0,0,0,0,0,0,0,0,false,false,false,false,false,false,false,0,0,false,false,false,0,false,false,false,false,false,false,false,0,[],0,0,0,0,0,false,[],0,false,false,false,false,0,0,false,false,false,false,false,0,0,0,0,0,0,0,false,0,0,0,0,x4,x2,[],x3,(0,0,0),0,b,x4,x1,[],[],[],[],[],())
 let x7:=runF false Zuk (λa=>1000000000000) x6
 let x8:QT13:=(getO (false,x6) x7).2.2.2.2.2.2.2.2.2.2.2.2.2.2.2.2.2.2.2.2.2.2.2.2.2.2.2.2.2.2.2.2.2.2.2.2.2.2.2.2.2.2.2.2.2.2.2.2.2.2.2.2.2.2.2.2.2.2.2.2.2.2.2.2.2.2.2.2.2.2.2.2.2.2.2
 let x9:=x8.1
 let x10:=ZQo x9
 let x11:= !x10
 let x12:=x9.2
 let x13:=x12.2.1
 let x14:=Nat.ble (List.length x13) most
 let x15:= !x14
 let x16:=x8.2
 let x17:=x16.2
 let x18:=x17.2
 let x19:=x18.2
 let x20:=x19.2.2.2
 let x21:=x20.2
 let x22:=x21.2
 let x23:=x22.2
 let x24:=x23.2
 let x25:=x24.1
 let x26:LINT×Bool×Bool×Bool×Bool×Int×Int:=((false,false,false,false,false,false,false,false,false),false,false,false,false,0,0)
 let x27:List EVTT:=x25++[(7,x12.1,x13,x26)]
 let x28:=Nat.ble (List.length x27) most
 let x29:=x24.2.1
 let x30:List TC:=x29++[x20.1]
 let x31:=x11||(x15||(!x28||Nat.ble (List.length x30) most))
 let x32:= !x31
 let x33:=x11||(x15||x28)
 let x34:TF:=(newX b.1).1.2.1.2.2.2.2.2.2.2.1
 let x35:=x34.2
 let x36:=x35.2
 let x37:=x36.2
 let x38:=x37.2
 let x39:=x38.2
 let x40:Int×Int:=(newX b.1).1.2.1.2.2.2.2.2.2.2.2
 let x41:QT30:=(newX b.1).1.2.2.2.2.2.2.2.2.2.2
 let x42:=x41.2
 let x43:=ZfX.2.2.2.2.2.2.2.2.2.2.2.2.2
 let x44:=x43.2
 let x45:=x44.2
 let x46:=x45.2
 let x47:=x46.2
 let x48:=x47.2
 let x49:List INPT×Int×Int×BRDT×RUNT×Int×List (QT7)×Int×Int×Int×Bool×List (Int×Int)×Int×Int×Int×Int×Int×Int×Int×Int×Bool×Bool×Bool×Bool×Bool×Bool×Bool×Int×Int×Bool×Bool×Bool×Int×Bool×Bool×Bool×Bool×Bool×Bool×Bool×Int×List Int×Int×Int×Int×Int×Int×Bool×List (Int×Int)×Int×Bool×Bool×Bool×Bool×Int×Int×Bool×Bool×Bool×Bool×Bool×Int×Int×Int×Int×Int×Int×Int×Bool×Int×Int×Int×Int×SYST×CORT×List (Int×Int)×PICT×(QT4)×Int×BRDT×SYST×TC×List (Int×Int)×List PINT×List ITMT×List EVTT×List TC×PUnit:=(decX l,iN (List.length (decX l)),0,b,x5,b.1,b.2.1,b.2.2.1,b.2.2.2.1,b.2.2.2.2.1,b.2.2.2.2.2.1,b.2.2.2.2.2.2,(newX b.1).1.1,(newX b.1).1.2.1.1,(newX b.1).1.2.1.2.1,(newX b.1).1.2.1.2.2.1,(newX b.1).1.2.1.2.2.2.1,(newX b.1).1.2.1.2.2.2.2.1,(newX b.1).1.2.1.2.2.2.2.2.1,(newX b.1).1.2.1.2.2.2.2.2.2.1,x34.1,x35.1,x36.1,x37.1,x38.1,x39.1,x39.2,x40.1,x40.2,(newX b.1).1.2.2.1,(newX b.1).1.2.2.2.1,(newX b.1).1.2.2.2.2.1,(newX b.1).1.2.2.2.2.2.1,(newX b.1).1.2.2.2.2.2.2.1,(newX b.1).1.2.2.2.2.2.2.2.1,(newX b.1).1.2.2.2.2.2.2.2.2.1,(newX b.1).1.2.2.2.2.2.2.2.2.2.1,x41.1,x42.1,x42.2,(newX b.1).2.1,(newX b.1).2.2.1,(newX b.1).2.2.2.1.1,(newX b.1).2.2.2.1.2.1,(newX b.1).2.2.2.1.2.2.1,(newX b.1).2.2.2.1.2.2.2,(newX b.1).2.2.2.2.1,(newX b.1).2.2.2.2.2,b.2.2.2.2.2.2,ZfX.1,ZfX.2.1,ZfX.2.2.1,ZfX.2.2.2.1,ZfX.2.2.2.2.1,ZfX.2.2.2.2.2.1,ZfX.2.2.2.2.2.2.1,ZfX.2.2.2.2.2.2.2.1,ZfX.2.2.2.2.2.2.2.2.1,ZfX.2.2.2.2.2.2.2.2.2.1,ZfX.2.2.2.2.2.2.2.2.2.2.1,ZfX.2.2.2.2.2.2.2.2.2.2.2.1,ZfX.2.2.2.2.2.2.2.2.2.2.2.2.1,x43.1,x44.1,x45.1,x46.1,x47.1,x48.1,x48.2,0,0,0,0,(newX b.1,b.2.2.2.2.2.2,ZfX,(0,0,0),0,[]),newX b.1,b.2.2.2.2.2.2,ZfX,(0,0,0),0,b,x4,(newX b.1).1,[],[],[],[],[],())
 let x50:=runF false Zuk (λa=>1000000000000) x49
 let x51:QT13:=(getO (false,x49) x50).2.2.2.2.2.2.2.2.2.2.2.2.2.2.2.2.2.2.2.2.2.2.2.2.2.2.2.2.2.2.2.2.2.2.2.2.2.2.2.2.2.2.2.2.2.2.2.2.2.2.2.2.2.2.2.2.2.2.2.2.2.2.2.2.2.2.2.2.2.2.2.2.2.2.2
 let x52:=x51.1
 let x53:=ZQo x52
 let x54:= !x53
 let x55:=x52.2
 let x56:=x55.2.1
 let x57:=Nat.ble (List.length x56) most
 let x58:= !x57
 let x59:=x51.2
 let x60:=x59.2
 let x61:=x60.2
 let x62:=x61.2
 let x63:=x62.2.2.2
 let x64:=x63.2
 let x65:=x64.2
 let x66:=x65.2
 let x67:=x66.2
 let x68:=x67.1
 let x69:List EVTT:=x68++[(7,x55.1,x56,x26)]
 let x70:=Nat.ble (List.length x69) most
 let x71:=x67.2.1
 let x72:List TC:=x71++[x63.1]
 let x73:=x54||(x58||(!x70||Nat.ble (List.length x72) most))
 let x74:= !x73
 let x75:=x54||(x58||x70)
 .br (!Za6 b||(Zce b !=0||Nat.ble (List.length b.2.2.2.2.2.2) most)) (.br (Za6 b) (.br (Zce b !=0) (.br (Zce b !=0) (.Lf (some ((x5,Zce b)))) (.br (ZIZ l) (.br (okB x7) (.br (x32||(!x33||(x11||x14))) (.br (x32||x33) (.br (x31) (.Lf (some (((x22.1,x23.1,bif x10 then x27 else x25,bif x10 then x30 else x29,x9,x16.1,x17.1,x18.1,x19.1,x21.1),0)))) (.Lf none)) (.Lf none)) (.Lf none)) (.Lf none)) (.Lf none))) (.br (ZIZ l) (.br (okB x50) (.br (x74||(!x75||(x54||x57))) (.br (x74||x75) (.br (x73) (.Lf (some (((x65.1,x66.1,bif x53 then x69 else x68,bif x53 then x72 else x71,x52,x59.1,x60.1,x61.1,x62.1,x64.1),0)))) (.Lf none)) (.Lf none)) (.Lf none)) (.Lf none)) (.Lf none))) (.Lf none)) (.Lf none)
def ZVG (b:BRDT) (l:List Int):RUNT×Int:=getO ZBU.Df (ZOk b l).val
def ZOl (b:BRDT) (l:List Int):Bool:=okB (ZOk b l).val
def ZSV:En:=Zg ZOj ZBU (λa=>some (ZOl a.1 a.2)) (λa=>ZVG a.1 a.2)
theorem ZRj:Za prog 23 ZSV:=
 pureP 2047 [(48,Zgi),(74,ZiS),(75,ZaW),(76,Za1),(77,ZaF)] [(0,ZE1)] ZOj ZBU ⟨Zg5,ZjS,ZbK,ZbM,Zbs,Tv⟩ Tryz.func23 Tryz.call23 ⟨ZHG,Tv⟩ (t:=λa=>ZOk a.1 a.2)
abbrev ZNn:List Sh:=[Sh.one (R.sl (R.Pq (R.int u8) (R.int u8))),Sh.one (R.sl (R.Pq (R.int u8) (R.int u8)))]
abbrev ZBu:Rs:=Rs.one (Sh.one R.bool)
def ZQJ:LS:={n:=26,Sl:=[(0,.code (Sh.one (R.sl (R.Pq (R.int u8) (R.int u8))))),(1,.code (Sh.one (R.sl (R.Pq (R.int u8) (R.int u8))))),(4,.code (Sh.one R.bool)),(12,.code (Sh.one (R.int i64))),(13,.code (Sh.one (R.int i64)))],Bx:=[],Sg:=[]}
def Zir (a:List (Int×Int)×List (Int×Int)×Bool×Int×Int×PUnit):RT (Option (Go1 (List (Int×Int)×List (Int×Int)×Bool×Int×Int×PUnit))):=
 let x1:= !Zf a.2.2.2.2.1 (List.length a.1)||Zf a.2.2.2.2.1 (List.length a.2.1)
 let x2:Int×Int:=R.get (R.Pq (R.int u8) (R.int u8)) a.1 a.2.2.2.2.1
 let x3:Int×Int:=R.get (R.Pq (R.int u8) (R.int u8)) a.2.1 a.2.2.2.2.1
 let x4:Int×Int×PUnit:=(a.2.2.2.1,a.2.2.2.2.1,PUnit.unit)
 .br (decide (a.2.2.2.2.1<a.2.2.2.1)) (.br (!x1||Zf a.2.2.2.2.1 (List.length a.1)) (.br (x1) (.br (!(x2.1==x3.1&&(x2.2==x3.2&&true))) (.Lf (some (Go1.ret (a.1,a.2.1,false,x4)))) (.Lf (some (Go1.cont (a.1,a.2.1,a.2.2.1,a.2.2.2.1,i64.wrap (a.2.2.2.2.1+1),PUnit.unit))))) (.Lf none)) (.Lf none)) (.Lf (some (Go1.brk (a.1,a.2.1,a.2.2.1,x4))))
def ZEG:Ora:=Zbo true ZQJ Zir (λa=>1000000000000)
theorem ZHr:Za3 (envX Tryz.prog [] [] 63 8) (.block 0 (.loop (Z2 Tryz.f107.body 0))) ZEG:=
 loopP trivial
def Zw0 (a:List (Int×Int)) (b:List (Int×Int)):RT (Option (Bool)):=
 let x1:=runF true Zir (λa_1=>1000000000000) (a,b,false,iN (List.length a),0,())
 let x2:=getO (false,a,b,false,iN (List.length a),0,()) x1
 .br (iN (List.length a) !=iN (List.length b)) (.Lf (some (false))) (.br (okB x1) (.br x2.1 (.Lf (some x2.2.2.2.1)) (.Lf (some (true)))) (.Lf none))
def ZQK (a:List (Int×Int)) (b:List (Int×Int)):Bool:=getO ZBu.Df (Zw0 a b).val
def ZEH (a:List (Int×Int)) (b:List (Int×Int)):Bool:=okB (Zw0 a b).val
def ZSI:En:=Zg ZNn ZBu (λa=>some (ZEH a.1 a.2)) (λa=>ZQK a.1 a.2)
theorem ZQI:Za Tryz.prog 107 ZSI:=
 pureP 63 [] [(0,ZEG)] ZNn ZBu trivial Tryz.func107 Tryz.call107 ⟨ZHr,Tv⟩ (t:=λa=>Zw0 a.1 a.2)
end
end Go.Proofs.YtpnjbfjomebppaaGreat
open Go Go.S3 Go.Proofs Go.Proofs.Cells
namespace Go.Proofs.YtpnjbfjomebppaaGreat
noncomputable section
structure Rm (rg:List Z0) (m:List Cell) (outs:List (Int×Int)) (g:List Int):Prop where
 r:smG rg=true
 m:smC m=true
 o:∀x,Nat.ble (outs++[x]).length most=true
 g:∀x,Nat.ble (g++[x]).length most=true
theorem ZHp (l:List (Int×Int)) (hl:l.length<=most):ZEH l l=true/\ZQK l l=true:=by
 have hms:=mst;obtain⟨r,hr,h1⟩:=ZO (fl:=true) (t:=Zir) (fuel:=λ_=>1000000000000)
  (λa=>∃i:Nat,i<=l.length/\a=(l,l,false,(l.length:Int),(i:Int),()))
  (λa=>Int.toNat (a.2.2.2.1-a.2.2.2.2.1)) (λr=>r.1=false)
  (by
   rintro a ⟨i,hi,rfl⟩;by_cases hlt:i<l.length
   ·left;have d:decide ((i:Int)<(l.length:Int))=true:=by simpa using hlt
    have r1:=Zaq l i hlt;refine⟨_,?_,⟨i+1,hlt,rfl⟩,by simp only;omega⟩;simp only[Zir,RT.val,d,r1,Yb,Yg,Yj,ZgN i (by omega),Yat,Y6,Ye]
   ·right;left;have d:decide ((i:Int)<(l.length:Int))=false:=by simpa using hlt
    exact⟨(l,l,false,(l.length:Int),(i:Int),()),by simp only[Zir,RT.val,d,Ye],rfl⟩)
  (l,l,false,iN l.length,0,()) ⟨0,YE _,rfl⟩ (by simp only[iN];omega)
 have hv:(Zw0 l l).val=some true:=by
  have hn:(iN l.length !=iN l.length)=false:=by simp
  simp only[Zw0,RT.val,hn,hr,okB,getO,h1,Yb,Ye]
 exact⟨by simp only[ZEH,hv];rfl,by simp only[ZQK,hv,getO]⟩
abbrev Zur:List Sh:=[Sh.agg (R.Pq (R.Pq Z5 (R.Pq (R.int i64) (R.Pq (R.sl (R.int u8)) (R.Pq (RY) (R.Pq (R.int i64) R.bool))))) (R.Pq rcCE (R.Pq Zbd (R.Pq (R.Pq (R.int u16) (R.Pq (R.int u8) (R.int i64))) (R.Pq (R.int i64) (R.sl (R.Pq (R.int u8) (R.int u8)))))))),Sh.agg (R.Pq (R.Pq Z5 (R.Pq (R.int i64) (R.Pq (R.sl (R.int u8)) (R.Pq (RY) (R.Pq (R.int i64) R.bool))))) (R.Pq rcCE (R.Pq Zbd (R.Pq (R.Pq (R.int u16) (R.Pq (R.int u8) (R.int i64))) (R.Pq (R.int i64) (R.sl (R.Pq (R.int u8) (R.int u8))))))))]
abbrev Zk4:Rs:=Rs.one (Sh.one R.bool)
def Zhz (a:SYST) (b:SYST):RT (Option (Bool)):=
 let x19:=(R.eqf Zbd a.2.2.1 b.2.2.1 true)
 let x20:=(R.eqf ZWb a.2.2.2.1 b.2.2.2.1 true)
 let p1:=(!a.2.2.2.2.1==b.2.2.2.2.1)::(!x20)::(!x19)::(!decide (a.2.1=b.2.1))::(!Zyc a.1 b.1)::(!(!Zyc a.1 b.1||smC a.2.1))::[]
 .br (orR p1 (ZEH a.2.2.2.2.2 b.2.2.2.2.2)) (.br (!Zyc a.1 b.1||smC a.2.1) (.Lf (some (Zyc a.1 b.1&&(decide (a.2.1=b.2.1)&&(x19&&(x20&&(a.2.2.2.2.1==b.2.2.2.2.1&&ZQK a.2.2.2.2.2 b.2.2.2.2.2))))))) (.Lf none)) (.Lf none)
def Zg7 (a:SYST) (b:SYST):Bool:=getO Zk4.Df (Zhz a b).val
def ZeU (a:SYST) (b:SYST):Bool:=okB (Zhz a b).val
def ZB2:En:=Zg Zur Zk4 (λa=>some (ZeU a.1 a.2)) (λa=>Zg7 a.1 a.2)
theorem ZE4:Za prog 52 ZB2:=
 pureP 31 [(34,ZCH),(106,ZRK),(107,ZSI)] [] Zur Zk4 ⟨ZFp,ZPa,ZQI,Tv⟩ Tryz.func52 Tryz.call52 trivial (t:=λa=>Zhz a.1 a.2)
abbrev ZSH:List Sh:=[]
abbrev ZNm:Rs:=Rs.one (Sh.one R.bool)
def ZQG:RT (Option (Bool)):=
 let x1:=rep (false,false,false,false,false,false,false,false,0,0) (Int.toNat 0)
 let x2:=Zkm x1
 let x3:BRDT:=(1,[(0,65535,true,1)],0,0,0,false,[])
 let x4:=Zha x1
 let x5:=ZVG x3 x4
 let x6:= !x5.2==0
 let x7:= !iN (List.length x5.1.1)==0
 let x8:=ZVG x3 (rep 0 (Int.toNat 24))
 let x9:= !x8.2==0
 let x10:=x8.1.1
 let x11:Nat:=List.length x10
 let x12:= !iN x11==6
 let p1:=x12::x9::x7::x6::[]
 let x13:=orR p1 (Zf 2 x11)
 let p2:=(!(R.get ZTE x10 2).1==7)::x12::x9::x7::x6::(!x13)::[]
 .br (!x2||ZOl x3 x4) (.br (x2) (.br (ZOl x3 (rep 0 (Int.toNat 24))) (.br (orR p2 (Zf 5 x11)) (.br (x13) (.Lf (some (true))) (.Lf none)) (.Lf none)) (.Lf none)) (.Lf none)) (.Lf none)
def kKn5:Bool:=getO ZNm.Df (ZQG).val
def ZQH:Bool:=okB (ZQG).val
def ZXg:En:=Zg ZSH ZNm (λa=>some (ZQH)) (λa=>kKn5)
theorem ZVc:Za prog 45 ZXg:=
 pureP 63 [(23,ZSV),(56,ZB3)] [] ZSH ZNm ⟨ZRj,ZE5,Tv⟩ Tryz.func45 Tryz.call45 trivial (t:=λa=>ZQG)
def Zel:En:=.tree (Zn (envX prog [] [] 7 8) Tryz.f31)
theorem ZgP:Za prog 31 Zel:=ZI (P:=prog) (n:=7) (k:=8) (l:=[]) (ol:=[]) trivial Tryz.func31 rfl (by kernel_rfl) Tryz.call31 trivial
abbrev ZEE:List Sh:=[Sh.one (R.sl (R.int i64)),Sh.one (R.int i64)]
abbrev ZtV:Rs:=Rs.tup [Sh.agg (R.Pq (R.int i64) (R.Pq rcRG (R.Pq (R.int i64) (R.Pq (R.int u8) (R.Pq (R.int u8) (R.Pq R.bool rcCE)))))),Sh.one (R.sl (R.int u8))]
def Zop (n:List Int) (k:Int):RT (Option (BRDT×List Int)):=
 .br (Zn9 (n,0)) (.br (ZkQ (Zco (n,0)).2 k) (.Lf (some (((Zco (n,0)).1,(Zf2 (Zco (n,0)).2 k).1)))) (.Lf none)) (.Lf none)
def Zu (n:List Int) (k:Int):BRDT×List Int:=getO ZtV.Df (Zop n k).val
def Zoq (n:List Int) (k:Int):Bool:=okB (Zop n k).val
def ZNl:En:=Zg ZEE ZtV (λa=>some (Zoq a.1 a.2)) (λa=>Zu a.1 a.2)
theorem ZNk:Za prog 46 ZNl:=
 pureP 255 [(31,Zel),(66,ZM1),(67,ZEi)] [] ZEE ZtV ⟨ZgP,ZMY,ZG8,Tv⟩ Tryz.func46 Tryz.call46 trivial (t:=λa=>Zop a.1 a.2)
abbrev ZwV:List Sh:=[Sh.agg (R.Pq (R.int i64) (R.Pq rcRG (R.Pq (R.int i64) (R.Pq (R.int u8) (R.Pq (R.int u8) (R.Pq R.bool rcCE))))))]
abbrev ZwW:Rs:=Rs.one (Sh.one R.bool)
def ZtW (b:BRDT):RT (Bool):=
 .Lf (decide (iN (List.length b.2.1)<=40)&&decide (iN (List.length b.2.2.2.2.2.2)<=60))
def Zor (b:BRDT):Bool:=(ZtW b).val
def ZEF:En:=Zg ZwV ZwW (λ_=>none) (λa=>Zor a)
theorem ZHo:Za prog 44 ZEF:=
 pureQ 7 [] [] ZwV ZwW trivial Tryz.func44 Tryz.call44 trivial (t:=λa=>ZtW a)
abbrev ZNh:List Sh:=[Sh.agg (R.Pq (R.int i64) (R.Pq rcRG (R.Pq (R.int i64) (R.Pq (R.int u8) (R.Pq (R.int u8) (R.Pq R.bool rcCE)))))),Sh.one (R.sl (R.int i64)),Sh.one (R.int i64),Sh.one (R.int i64)]
abbrev ZBp:Rs:=Rs.one (Sh.one R.bool)
def Zqq (b:BRDT) (n:List Int) (f:Int) (y:Int):RT (Option (Bool)):=
 let p1:=((Zkl (Zu n 0).1).2 !=(wNew (Zu n 0).1).2)::(Zce (Zu n 0).1 !=Zbf (Zu n 0).1)::(!Zcj (Zu n 0).1)::(!Za6 (Zu n 0).1)::[]
 let p8:=((Zkl b).2 !=(wNew b).2)::(Zce b !=Zbf b)::(!Zcj b)::(!Za6 b)::[]
 let x1:=orR p8 (ZeU (Zkl b).1 (wNew b).1)
 let x2:= !x1
 let p2:=(!(!Za6 b||Zcj b))::x2::(!Zg8 b)::(!ZcE b)::[]
 let p10:=(!Za6 b)::x2::(!Zg8 b)::(!ZcE b)::[]
 let x3:=orR p2 (Za6 b)
 let x4:= !x3
 let x5:=orR p10 (Zcj b)
 let x6:= !x5
 let x7:= !ZcE b||(!Zg8 b||x1)
 let x8:= !x7
 let p4:=(!(!ZcE b||Zg8 b))::x8::x6::x4::[]
 let p6:=(!ZcE b)::x8::x6::x4::[]
 let x9:=Zce b !=Zbf b||((Zkl b).2 !=(wNew b).2|| !Zg7 (Zkl b).1 (wNew b).1)
 let p11:=x9::(!ZcE b)::p4
 let x10:=orR p1 (ZeU (Zkl (Zu n 0).1).1 (wNew (Zu n 0).1).1)
 let x11:= !x10
 let p3:=(!(!Za6 (Zu n 0).1||Zcj (Zu n 0).1))::x11::(!Zg8 (Zu n 0).1)::(!ZcE (Zu n 0).1)::[]
 let p9:=(!Za6 (Zu n 0).1)::x11::(!Zg8 (Zu n 0).1)::(!ZcE (Zu n 0).1)::[]
 let x12:=orR p3 (Za6 (Zu n 0).1)
 let x13:= !x12
 let p12:=x13::p11
 let x14:=orR p9 (Zcj (Zu n 0).1)
 let x15:= !x14
 let p13:=x15::p12
 let x16:= !ZcE (Zu n 0).1||(!Zg8 (Zu n 0).1||x10)
 let x17:= !x16
 let p14:=(!(!ZcE (Zu n 0).1||Zg8 (Zu n 0).1))::x17::p13
 let p15:=(!ZcE (Zu n 0).1)::x17::p13
 let x18:=Zce (Zu n 0).1 !=Zbf (Zu n 0).1||((Zkl (Zu n 0).1).2 !=(wNew (Zu n 0).1).2|| !Zg7 (Zkl (Zu n 0).1).1 (wNew (Zu n 0).1).1)
 let p16:=x18::(!ZcE (Zu n 0).1)::p14
 let x19:BRDT:=(bif Zbn f 4==0 then y else (Zu n 0).1.1,bif Zbn f 4==0 then (Zu n 0).1.2.1 else bif Zbn f 4==1 then (Zu n 0).1.2.1 else bif Zbn f 4==2 then b.2.1 else (Zu n 0).1.2.1,bif Zbn f 4==0 then (Zu n 0).1.2.2.1 else bif Zbn f 4==1 then y else (Zu n 0).1.2.2.1,(Zu n 0).1.2.2.2.1,(Zu n 0).1.2.2.2.2.1,(Zu n 0).1.2.2.2.2.2.1,bif Zbn f 4==0 then (Zu n 0).1.2.2.2.2.2.2 else bif Zbn f 4==1 then (Zu n 0).1.2.2.2.2.2.2 else bif Zbn f 4==2 then (Zu n 0).1.2.2.2.2.2.2 else b.2.2.2.2.2.2)
 let x20:=ZcE x19
 let x21:= !x20
 let x22:=Zg8 x19
 let x23:= !x22
 let x24:=Za6 x19
 let x25:= !x24
 let x26:=Zcj x19
 let x27:=Zce x19 !=Zbf x19
 let x28:=Zkl x19
 let x29:=wNew x19
 let x30:=x28.2 !=x29.2
 let p7:=x30::x27::(!x26)::x25::[]
 let x31:=x28.1
 let x32:=x29.1
 let x33:=orR p7 (ZeU x31 x32)
 let x34:= !x33
 let x35:=x25||x26
 let p5:=(!x35)::x34::x23::x21::[]
 let x36:=orR p5 x24
 let x37:= !x36
 let p17:=x37::p16
 let x38:=x21||(x23||(x34||x35))
 let x39:= !x38
 let p18:=x39::p17
 let x40:=x21||(x23||x33)
 let x41:= !x40
 let p19:=x41::p18
 let x42:=x21||x22
 let p20:=(!x42)::p19
 .br (!(!Zor b||decide (iN (List.length n)>120))||ZQH) (.br (!Zor b||decide (iN (List.length n)>120)) (.Lf (some (true))) (.br (Zoq n 0) (.br (Zjq f 4) (.br (orR p20 x20) (.br (orR p19 x42) (.br (orR p18 x40) (.br (orR p17 x38) (.br (orR p16 x36) (.br (orR p14 (ZcE (Zu n 0).1)) (.br (orR p15 (Zg8 (Zu n 0).1)) (.br (orR p13 x16) (.br (orR p12 x14) (.br (orR p11 x12) (.br (orR p4 (ZcE b)) (.br (orR p6 (Zg8 b)) (.br (x4||(x6||x7)) (.br (x4||x5) (.br (x3) (.br (x9) (.Lf (some (false))) (.br (x18) (.Lf (some (false))) (.br (x27||(x30|| !Zg7 x31 x32)) (.Lf (some (false))) (.br (ZQH) (.Lf (some (true))) (.Lf none))))) (.Lf none)) (.Lf none)) (.Lf none)) (.Lf none)) (.Lf none)) (.Lf none)) (.Lf none)) (.Lf none)) (.Lf none)) (.Lf none)) (.Lf none)) (.Lf none)) (.Lf none)) (.Lf none)) (.Lf none)) (.Lf none)) (.Lf none))) (.Lf none)
def ZVb (b:BRDT) (n:List Int) (f:Int) (y:Int):Bool:=getO ZBp.Df (Zqq b n f y).val
def ZNi (b:BRDT) (n:List Int) (f:Int) (y:Int):Bool:=okB (Zqq b n f y).val
def ZXd:En:=Zg ZNh ZBp (λa=>some (ZNi a.1 a.2.1 a.2.2.1 a.2.2.2)) (λa=>ZVb a.1 a.2.1 a.2.2.1 a.2.2.2)
theorem lBVal_ok:Za prog 7 ZXd:=
 pureP 75041668857855 [(44,ZEF),(45,ZXg),(46,ZNl),(47,ZBm),(48,ZSW),(49,ZVL),(50,ZiI),(51,Zxy),(52,ZB2)] [] ZNh ZBp ⟨ZHo,ZVc,ZNk,ZwJ,ZRl,ZS2,ZjM,Zuq,ZE4,Tv⟩ Tryz.func7 Tryz.call7 trivial (t:=λa=>Zqq a.1 a.2.1 a.2.2.1 a.2.2.2)
theorem lval9 {t:RT (Option Bool)} (h:t.val=some true):okB t.val=true/\getO false t.val=true:=by rw[h];exact⟨rfl,rfl⟩
theorem ZSG:ZQH=true/\kKn5=true:=lval9 (t:=ZQG) (by kernel_rfl)
theorem ZHV (b:BRDT) (hg:smG b.2.1=true) (hm:smC b.2.2.2.2.2.2=true) (h:Zbf b=0):vldB b.2.2.2.2.2.2=true:=by
 have hv:(ZfC b).val=some (bif b.1 !=1&&b.1 !=2 then 1 else bif Zbz b.2.1 !=0 then Zbz b.2.1 else bif decide (b.2.2.1<0)||(decide (b.2.2.1>100)|| !vldB b.2.2.2.2.2.2) then 1 else 0):=by
  unfold ZfC;simp only[RT.val,hg,hm,Yk,Yb];cases b.1 !=1&&b.1 !=2
  ·cases Zbz b.2.1 !=0
   ·cases decide (b.2.2.1<0)||(decide (b.2.2.1>100)|| !vldB b.2.2.2.2.2.2)<;>rfl
   ·rfl
  ·rfl
 simp only[Zbf,hv,getO] at h;cases hx:vldB b.2.2.2.2.2.2
 ·rw[hx] at h;simp only[Yq,Yk,Yb] at h;cases h1:b.1 !=1&&b.1 !=2
  ·rw[h1] at h;cases h2:Zbz b.2.1 !=0
   ·rw[h2] at h;simp at h
   ·rw[h2] at h;simp only[Yb,Ye] at h;rw[h] at h2;simp at h2
  ·rw[h1] at h;simp at h
 ·rfl
theorem ZMJ (b:BRDT) (hg:smG b.2.1=true) (hm:b.2.2.2.2.2.2.length<=100000):Zg8 b=true/\ZcE b=true/\Zkl b=wNew b/\Zce b=Zbf b/\Za6 b=true/\Zcj b=true:=by
 have hms:=mst;have hc:=smCb (l:=b.2.2.2.2.2.2) (by omega);have hb:Nat.ble (List.length b.2.2.2.2.2.2) most=true:=Zft (by omega);have hw:=Zk3 b hg hc;obtain⟨e1,e2⟩:=ZHF b;rw[hw] at e2;have hv:(ZqF b).val=(Zo5 b).val:=by
  cases hx:Zbf b !=0
  ·have h0:Zbf b=0:=by simpa using hx
   have hn:=ZgA (Zkn.1 (ZHV b hg hc h0));simp only[ZqF,Zo5,RT.val,e1,e2,hw,hx,hb,hc,hn,Yb,Ye]
  ·simp only[ZqF,Zo5,RT.val,e1,e2,hw,hx,Yb]
 have hC:=(ZS3 b hg hm).1;refine⟨hC,?_,by simp only[Zkl,wNew,hv],e1,e2,hw⟩;simp only[ZcE,hv];exact hC
theorem ZIO (c:CORT):Zyc c c=true:=by simp[Zyc,ZI8,RT.val]
theorem eqf_refl:∀(r:R) (x:r.den) (e:Bool),R.eqf r x x e=e
 | .int _,x,e=>by show (((x:Int)==x)&&e)=e;rw[Yat,YZ]
 | .bool,x,e=>by show (((x:Bool)==x)&&e)=e;rw[Yat,YZ]
 | .Pq a b,x,e=>by show a.eqf x.1 x.1 (b.eqf x.2 x.2 e)=e;rw[eqf_refl b,eqf_refl a]
 | .str,_,e=>rfl
 | .sl _,_,e=>rfl
 | .unit,_,e=>rfl
theorem ZO1 (a:SYST) (hm:a.2.1.length<=1000000) (ho:a.2.2.2.2.2.length<=1000000):ZeU a a=true/\Zg7 a a=true:=by
 have hms:=mst;obtain⟨j1,j2⟩:=ZHp a.2.2.2.2.2 (by omega);have hc:smC a.2.1=true:=smCb hm;have e1:R.eqf Zbd a.2.2.1 a.2.2.1 true=true:=eqf_refl _ _ _;have e2:R.eqf ZWb a.2.2.2.1 a.2.2.2.1 true=true:=eqf_refl _ _ _;have hv:(Zhz a a).val=some true:=by simp only[Zhz,RT.val,j1,j2,hc,e1,e2,ZIO,decide_true,Yat,ZdO,Zcm,Yk,Yg,Bool.or_self,Y6,Yb]
 exact⟨by simp only[ZeU,hv,okB],by simp only[Zg7,hv,getO]⟩
theorem ZWF (x n:Int) (h0:0<n) (h1:n<=4611686018427387904):Zjq x n=true:=(ZwK x n h0 h1).1
theorem ZO0 (n:List Int) (k:Nat) (hk:k<=250):Zoq n (k:Int)=true/\smG (Zu n (k:Int)).1.2.1=true/\(Zu n (k:Int)).1.2.2.2.2.2.2.length<=200/\(Zu n (k:Int)).2.length<=4*k/\(Zu n (k:Int)).1=(Zco (n,0)).1:=by
 obtain⟨c1,b1,⟨s1,bs1,hr⟩,hch,_,l,hl,hi⟩:=ZMZ (ZVq n) (by omega);obtain⟨c2,_,l2⟩:=ZMP bs1 (by omega);obtain⟨c3,b3,l3,_⟩:=ZG9 b1 (by omega) k hk;have hv:(Zop n (k:Int)).val=some ((Zco (n,0)).1,(Zf2 (Zco (n,0)).2 (k:Int)).1):=by simp only[Zop,RT.val,c1,c3,Yb]
 have e:Zu n (k:Int)=((Zco (n,0)).1,(Zf2 (Zco (n,0)).2 (k:Int)).1):=by simp only[Zu,hv,getO]
 refine⟨by simp only[Zoq,hv,okB],?_,?_,?_,by rw[e]⟩
 ·rw[e,hr];exact smGb (by omega)
 ·rw[e];show (Zco (n,0)).1.2.2.2.2.2.2.length<=200;rw[hi];exact YX (ZeH l) hl
 ·rw[e];exact l3
theorem ZtF (b:BRDT) (hg:smG b.2.1=true) (hm:b.2.2.2.2.2.2.length<=1000):ZeU (wNew b).1 (wNew b).1=true/\Zg7 (wNew b).1 (wNew b).1=true:=by
 have hc:=smCb (l:=b.2.2.2.2.2.2) (by omega);have hw:=Zk3 b hg hc;have hn:=ZeH b.2.2.2.2.2.2;have key:(wNew b).1.2.1.length<=1000/\(wNew b).1.2.2.2.2.2.length<=1000:=by
  have hv:(Zo5 b).val=some (bif Zbf b !=0 then (ZVJ,Zbf b) else ((newS b),0)):=by unfold Zo5;simp only[RT.val,hw,hc,Yb];cases Zbf b !=0<;>rfl
  simp only[wNew,hv,getO];cases Zbf b !=0
  ·exact⟨by show (normX b.2.2.2.2.2.2).length<=_;omega,by show ([]:List (Int×Int)).length<=_;simp⟩
  ·exact⟨by show ([]:List Cell).length<=_;simp,by show ([]:List (Int×Int)).length<=_;simp⟩
 exact ZO1 _ (by omega) (by omega)
theorem bval_law (b:BRDT) (n:List Int) (f y:Int):ZNi b n f y=true/\ZVb b n f y=true:=by
 have hv:(Zqq b n f y).val=some true:=by
  cases hx: !Zor b||decide (iN (List.length n)>120)
  ·have hlt:b.2.1.length<=40/\b.2.2.2.2.2.2.length<=60:=by simp only[Ym,Bool.not_eq_false'] at hx;have:=hx.1;simp only[Zor,ZtW,RT.val,Ya,Yf,iN] at this;omega
   obtain⟨s1,s2,s3,s4,s5⟩:=ZO0 n 0 (by omega);have s1:Zoq n 0=true:=s1;have s2:smG (Zu n 0).1.2.1=true:=s2;have s3:(Zu n 0).1.2.2.2.2.2.2.length<=200:=s3;have pl:=ZWF f 4 (by decide) (by decide);have gb:smG b.2.1=true:=smGb (by omega);obtain⟨a1,a2,a3,a4,a5,a6⟩:=ZMJ b gb (by omega);obtain⟨a7,a8⟩:=ZtF b gb (by omega);obtain⟨c1,c2,c3,c4,c5,c6⟩:=ZMJ (Zu n 0).1 s2 (by omega);obtain⟨c7,c8⟩:=ZtF (Zu n 0).1 s2 (by omega);obtain⟨d,hd⟩:∃d:BRDT,((bif Zbn f 4==0 then y else (Zu n 0).1.1,bif Zbn f 4==0 then (Zu n 0).1.2.1 else bif Zbn f 4==1 then (Zu n 0).1.2.1 else bif Zbn f 4==2 then b.2.1 else (Zu n 0).1.2.1,bif Zbn f 4==0 then (Zu n 0).1.2.2.1 else bif Zbn f 4==1 then y else (Zu n 0).1.2.2.1,(Zu n 0).1.2.2.2.1,(Zu n 0).1.2.2.2.2.1,(Zu n 0).1.2.2.2.2.2.1,bif Zbn f 4==0 then (Zu n 0).1.2.2.2.2.2.2 else bif Zbn f 4==1 then (Zu n 0).1.2.2.2.2.2.2 else bif Zbn f 4==2 then (Zu n 0).1.2.2.2.2.2.2 else b.2.2.2.2.2.2):BRDT)=d:=⟨_,rfl⟩;have gd:smG d.2.1=true/\d.2.2.2.2.2.2.length<=1000:=by rw[<-hd];cases Zbn f 4==0<;>cases Zbn f 4==1<;>cases Zbn f 4==2<;>exact⟨by first|exact s2|exact gb,by first|(show (Zu n 0).1.2.2.2.2.2.2.length<=1000;omega)|(show b.2.2.2.2.2.2.length<=1000;omega)⟩
   obtain⟨d1,d2,d3,d4,d5,d6⟩:=ZMJ d gd.1 (by omega);obtain⟨d7,d8⟩:=ZtF d gd.1 gd.2;simp only[Zqq,RT.val,hx,hd,ZSG.1,s1,pl,a1,a2,a3,a4,a5,a6,a7,a8,c1,c2,c3,c4,c5,c6,c7,c8,d1,d2,d3,d4,d5,d6,d7,d8,ZdO,Zcm,bne_self_eq_false,Yk,YB,Yg,Yq,Bool.or_self,YJ,Yj,Yb,Ye]
  ·simp only[Zqq,RT.val,hx,ZSG.1,Yg,Yj,Yb]
 exact⟨by simp only[ZNi,hv];rfl,by simp only[ZVb,hv,getO]⟩
end
end Go.Proofs.YtpnjbfjomebppaaGreat
