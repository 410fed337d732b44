import Derived.Test.YteaflmalcclnoaaGreatDoorDecP
import Derived.Stop.RegionWithIn
open Go.Proofs.Tryz (prog)
open Go.IntKind (u8 u16 i64 wrap)
set_option linter.unusedSimpArgs false
open Go Go.S3 Go.Proofs
open Go.S3.R (Pq)
set_option linter.unusedVariables false
set_option maxRecDepth 100000
namespace Go.Proofs.YteaflmalcclnoaaGreatDoor
noncomputable section
def Zg6:En:=.tree (Zo (envX prog [(56,ZuW),(57,ZLN),(58,ZuS),(59,ZDC)] [] 31 8) Tryz.f23)
theorem Zh1:Za prog 23 Zg6:=ZL ⟨ZH0,ZQ5,ZHY,ZDB,Tv⟩ Tryz.func23 rfl (by kernel_rfl) Tryz.call23 trivial
def Zbg:En:=.tree (Zo (envX prog [] [] 63 8) Tryz.f151)
theorem ZeF:Za prog 151 Zbg:=ZL trivial Tryz.func151 rfl (by kernel_rfl) Tryz.call151 trivial
def Zbh:En:=.tree (Zo (envX prog [(151,Zbg)] [] 40567299923085334190945185301503 8) Tryz.f64)
theorem ZeG:Za prog 64 Zbh:=ZL ⟨ZeF,Tv⟩ Tryz.func64 rfl (by kernel_rfl) Tryz.call64 trivial
def ZbK:En:=.tree (Zo (envX prog [] [] 31 8) Tryz.f66)
theorem ZeY:Za prog 66 ZbK:=ZL trivial Tryz.func66 rfl (by kernel_rfl) Tryz.call66 trivial
def ZD:En:=.tree (Zo (envX prog [] [] 63 8) Tryz.f67)
theorem ZaG:Za prog 67 ZD:=ZL trivial Tryz.func67 rfl (by kernel_rfl) Tryz.call67 trivial
def Za5:En:=.tree (Zo (envX prog [(66,ZbK),(67,ZD),(78,ZwK),(79,ZkQ)] [] 63 8) Tryz.f65)
theorem Zd2:Za prog 65 Za5:=ZL ⟨ZeY,ZaG,ZEr,Zpz,Tv⟩ Tryz.func65 rfl (by kernel_rfl) Tryz.call65 trivial
def Zbf:En:=.tree (Zo (envX prog [(63,ZMK),(64,Zbh),(65,Za5),(66,ZbK),(67,ZD)] [] 45177283517874303 8) Tryz.f25)
theorem Zb2:Za prog 25 Zbf:=ZL ⟨ZRm,ZeG,Zd2,ZeY,ZaG,Tv⟩ Tryz.func25 rfl (by kernel_rfl) Tryz.call25 trivial
def Zai:En:=.tree (Zo (envX prog [] [] 23 8) Tryz.f155)
theorem Zcx:Za prog 155 Zai:=ZL trivial Tryz.func155 rfl (by kernel_rfl) Tryz.call155 trivial
def Zbu:En:=.tree (Zo (envX prog [(155,Zai),(208,Zni)] [] 4195343 8) Tryz.f154)
theorem ZeM:Za prog 154 Zbu:=ZL ⟨Zcx,ZzD,Tv⟩ Tryz.func154 rfl (by kernel_rfl) Tryz.call154 trivial
def Zbj:En:=.tree (Zo (envX prog [(75,Zpr),(152,Zm9),(153,Zzr),(154,Zbu)] [] 63 8) Tryz.f68)
theorem ZeI:Za prog 68 Zbj:=ZL ⟨Zx2,Zzp,ZKO,ZeM,Tv⟩ Tryz.func68 rfl (by kernel_rfl) Tryz.call68 trivial
def Z9:En:=.tree (Zo (envX prog [] [] 127 8) Tryz.f158)
theorem Zb3:Za prog 158 Z9:=ZL trivial Tryz.func158 rfl (by kernel_rfl) Tryz.call158 trivial
def Zbt:En:=.tree (Zo (envX prog [(155,Zai),(156,Zs0),(157,Zzw),(158,Z9),(159,ZsA),(160,ZuP)] [] 68720003071 8) Tryz.f71)
theorem ZeL:Za prog 71 Zbt:=ZL ⟨Zcx,ZGh,ZKV,Zb3,ZF2,ZHX,Tv⟩ Tryz.func71 rfl (by kernel_rfl) Tryz.call71 trivial
def Zbi:En:=.tree (Zo (envX prog [(77,ZgK),(158,Z9),(161,Zm5),(162,Zpq)] [] 255 8) Tryz.f74)
theorem ZeH:Za prog 74 Zbi:=ZL ⟨Zng,Zb3,Zzl,ZB4,Tv⟩ Tryz.func74 rfl (by kernel_rfl) Tryz.call74 trivial
def Zbk:En:=.tree (Zo (envX prog [(68,Zbj),(69,Znr),(70,ZdY),(71,Zbt),(72,Zt5),(73,Zdx),(74,Zbi),(75,Zpr),(76,ZB8),(77,ZgK)] [] 255 8) Tryz.f26)
theorem Zb4:Za prog 26 Zbk:=ZL ⟨ZeI,Znq,Zfm,ZeL,ZHd,ZfR,ZeH,Zx2,ZOJ,Zng,Tv⟩ Tryz.func26 rfl (by kernel_rfl) Tryz.call26 trivial
def ZaV:En:=.tree (Zo (envX prog [(67,ZD),(78,ZwK),(79,ZkQ)] [] 7 8) Tryz.f27)
theorem ZbL:Za prog 27 ZaV:=ZL ⟨ZaG,ZEr,Zpz,Tv⟩ Tryz.func27 rfl (by kernel_rfl) Tryz.call27 trivial
abbrev ZuX:List Sh:=[Sh.agg (Pq Kc (Pq rcRG (Pq Kc (Pq Ka (Pq Ka (Pq R.bool rcCE)))))),So (R.sl Ka)]
abbrev ZpD:Rs:=Rs.tup [Sh.agg (Pq (R.sl ZcS) (Pq (R.sl Zdu) (Pq (R.sl rcEVT) (Pq (R.sl Zbc) (Pq (Pq Zbc (Pq Kc (Pq (R.sl Ka) (Pq (RY) (Pq Kc R.bool))))) (Pq rcCE (Pq Zcq (Pq (Pq Kb (Pq Ka Kc)) (Pq Kc (R.sl (Pq Ka Ka))))))))))),So Kc]
def ZSB:LS:={n:=58,Sl:=[(4,.fix (A.loc 1 0)),(8,.fix (A.loc 5 0)),(29,.code (So (R.sl ZfL))),(30,.code (So Kc)),(31,.code (So Kc))],Bx:=[List.replicate 7 .junk,List.replicate 66 .junk,List.replicate 7 .junk,List.replicate 62 .junk,List.replicate 62 .junk,[.many (Pq Zbc (Pq Kc (Pq (R.sl Ka) (Pq (RY) (Pq Kc R.bool))))),.code rcCE,.many Zcq,.many (Pq Kb (Pq Ka Kc)),.code Kc,.tip 0,.many (Pq Kc (Pq rcRG (Pq Kc (Pq Ka (Pq Ka (Pq R.bool rcCE)))))),.tip 1,.tip 2,.tip 3,.tip 4,.many (Pq (Pq Zbc (Pq Kc (Pq (R.sl Ka) (Pq (RY) (Pq Kc R.bool))))) (Pq rcCE (Pq Zcq (Pq (Pq Kb (Pq Ka Kc)) (Pq Kc (R.sl (Pq Ka Ka))))))),.many Zbc]],Sg:=[⟨Pq Ka Ka,266,false⟩,⟨Pq Kc (Pq Kb (Pq Ka (Pq R.bool (Pq R.bool (Pq R.bool (Pq R.bool (Pq R.bool ZJP))))))),99,false⟩,⟨Pq Kc (Pq (RY) (Pq Kc (Pq Kc (Pq R.bool R.bool)))),109,false⟩,⟨Pq Kc (Pq Kc (Pq (R.sl Ka) (Pq ZJP (Pq R.bool (Pq R.bool (Pq R.bool (Pq R.bool (Pq Kb Ka)))))))),161,false⟩,⟨Pq Kc (Pq ZmP (Pq R.bool (Pq R.bool (Pq R.bool (Pq Ka rcF7))))),41,false⟩]}
def Zc1 (a:List INPT×Int×Int×CORT×List (Int×Int)×PICT×(QT3)×Int×BRDT×SYST×TC×List (Int×Int)×List PINT×List ITMT×List EVTT×List TC×PUnit):RT (Option (Go1 (List INPT×Int×Int×CORT×List (Int×Int)×PICT×(QT3)×Int×BRDT×SYST×TC×List (Int×Int)×List PINT×List ITMT×List EVTT×List TC×PUnit))):=
 let x1:INPT:=R.get ZfL a.1 a.2.2.1
 let x2:=x1.1
 let x3:=bif a.2.2.2.1.2.2.2.1.1==1 then a.2.2.2.1.2.2.2.1.1==1 else bif a.2.2.2.1.2.2.2.1.1==2 then a.2.2.2.1.2.2.2.1.1==2 else bif a.2.2.2.1.2.2.2.1.1==3 then a.2.2.2.1.2.2.2.1.1==3 else bif a.2.2.2.1.2.2.2.1.1==4 then a.2.2.2.1.2.2.2.1.1==4 else a.2.2.2.1.2.2.2.1.1==5
 let x4:= !x3
 let x5:= !x2||(x4||smG a.2.2.2.2.2.2.2.2.1.2.1)
 let x6:= !x5
 let x7:=x1.2
 let x8:=x7.2
 let x9:=x8.1
 let x10:= !x9
 let x11:=x10&&ZbG a.2.2.2.1==3
 let x12:=x11&&Zba a.2.2.2.1.2.2.2.1.1
 let x13:=smG a.2.2.2.2.2.2.2.2.1.2.1&&smC a.2.2.2.2.1
 let x14:= !x12||(x4||x13)
 let x15:= !x14
 let x16:=x11&&ZbU a.2.2.2.1.2.2.2.1.1
 let x17:= !x16
 let x18:= !a.2.2.2.1.2.2.2.1.1 !=7||x13
 let x19:List (Int×Int):=a.2.2.2.2.2.2.2.2.2.2.2.1++[(u8.wrap a.2.2.2.1.2.2.2.1.2.1,a.2.2.2.1.2.2.2.1.2.2.1)]
 let x20:=x17||(!x18||(a.2.2.2.1.2.2.2.1.1 !=7||Nat.ble (Le x19) most))
 let p7:=( !x20)::(!ZmM a.2.2.2.1)::x15::x6::[]
 let x22:=x17||x18
 let p13:=( !x22)::p7
 let x24:Int:=bif a.2.2.2.1.2.2.2.2.1==7 then i64.wrap (a.2.2.2.2.2.2.2.1+1) else 0
 let x25:Int:=if 100<a.2.2.2.2.2.2.2.2.1.2.2.1 then 100 else a.2.2.2.2.2.2.2.2.1.2.2.1
 let x26:=x8.2
 let x27:=x26.2
 let x28:=x27.2
 let x29:=x28.2
 let x30:=x29.2
 let x31:=a.2.2.2.2.2.2.2.2.1.2.2.2.2
 let x32:=x31.2.1
 let x33:=x30.2
 let x34:=x33.1
 let x35:=ZkW a.2.2.2.2.2.1 x34
 let x36:LINT:=(x2&&bif x3 then decide (x24>=Ziv a.2.2.2.2.2.2.2.2.1.2.1 a.2.2.2.1.2.2.2.1.2.1) else bif a.2.2.2.1.2.2.2.1.1==6||a.2.2.2.1.2.2.2.1.1==7 then decide (x24>=if x25>0 then x25 else 0) else decide (x24>=0),x7.1||Zaa a.2.2.2.2.2.2.1,x9,x26.1,x27.1,x28.1,x29.1,x30.1,bif x32 then andI u8 x34 1==1 else vInt x35)
 let x37:=a.2.2.2.1.2.2.2.1.1==8||a.2.2.2.1.2.2.2.1.1==9
 let x38:= !x32
 let x39:Int:=bif x32 then a.2.2.2.2.2.1.1 else x35.1
 let x40:=x35.2
 let x41:=bif x32 then a.2.2.2.2.2.1.2.1 else x40.1
 let x42:=x40.2
 let x43:=bif x32 then a.2.2.2.2.2.1.2.2.1 else x42.1
 let x44:=x42.2
 let x45:=bif x32 then a.2.2.2.2.2.1.2.2.2.1 else x44.1
 let x46:=x44.2
 let x47:=bif x32 then a.2.2.2.2.2.1.2.2.2.2.1 else x46.1
 let x48:=x46.2
 let x49:Int:=bif x32 then a.2.2.2.2.2.1.2.2.2.2.2.1 else x48.1
 let x50:=x48.2
 let x51:Int:=bif x32 then a.2.2.2.2.2.1.2.2.2.2.2.2.1 else x50.1
 let x52:=a.2.2.2.2.2.1.2.2.2.2.2.2.2
 let x53:=x50.2
 let x54:=bif x32 then x52.1 else x53.1
 let x55:=x52.2
 let x56:=x53.2
 let x57:=bif x32 then x55.1 else x56.1
 let x58:=x55.2
 let x59:=x56.2
 let x60:=bif x32 then x58.1 else x59.1
 let x61:=x58.2
 let x62:=x59.2
 let x63:=bif x32 then x61.1 else x62.1
 let x64:=x61.2
 let x65:=x62.2
 let x66:=bif x32 then x64.1 else x65.1
 let x67:=x64.2
 let x68:=x65.2
 let x69:Int:=bif x32 then x67.1 else x68.1
 let x70:=x67.2
 let x71:=x68.2
 let x72:Int:=bif x32 then x70.1 else x71.1
 let x73:=x70.2
 let x74:=x71.2
 let x75:Int:=bif x32 then x73.1 else x74.1
 let x76:=x73.2
 let x77:=x74.2
 let x78:Int:=bif x32 then x76.1 else x77.1
 let x79:=x76.2
 let x80:=x77.2
 let x81:Int:=bif x32 then x79.1 else x80.1
 let x82:=x79.2
 let x83:=x80.2
 let x84:Int:=bif x32 then x82.1 else x83.1
 let x85:=x82.2
 let x86:=x83.2
 let x87:Int:=bif x32 then x85.1 else x86.1
 let x88:=bif x32 then x85.2 else x86.2
 let x89:PICT:=(x39,x41,x43,x45,x47,x49,x51,x54,x57,x60,x63,x66,x69,x72,x75,x78,x81,x84,x87,x88)
 let x90:=vAck x89
 let x91:=x33.2
 let x92:=u8.wrap (u8.wrap a.2.2.2.1.2.2.2.1.2.1-a.2.2.2.2.2.2.2.2.1.2.2.2.1)
 let x93:=x38&&decide (x92<2)
 let x94:=x92==1
 let x95:=bif x38 then x94 else x94
 let x96:=ZpL x89 x95
 let x97:=u8.wrap (u8.wrap a.2.2.2.1.2.2.2.1.2.1-x31.1)
 let x98:=decide (x97<4)
 let x99:=i64.wrap x97
 let x100:Int:=bif x12 then bif x3 then ZkZ a.2.2.2.2.2.2.2.2.1.2.1 a.2.2.2.2.1 a.2.2.2.1.2.2.2.1.2.1 else bif x37 then bif x38 then x90.2 else x91 else bif x93 then x96.2 else bif x98 then Zmm a.2.2.2.2.2.2.1 x99 else x91 else 0
 let x101:=clkX a.2.2.2.1 x36 x100
 let x102:=x101.2
 let x103:=Zh4 a.2.2.2.2.2.2.1 x99 a.2.2.2.1.2.2.2.1.2.2.1
 let x104:Int:=bif x16 then bif a.2.2.2.1.2.2.2.1.1 !=7 then a.2.2.2.2.2.2.1.1 else bif x93 then a.2.2.2.2.2.2.1.1 else bif x98 then x103.1 else a.2.2.2.2.2.2.1.1 else a.2.2.2.2.2.2.1.1
 let x105:=x103.2
 let x106:Int:=bif x16 then bif a.2.2.2.1.2.2.2.1.1 !=7 then a.2.2.2.2.2.2.1.2.1 else bif x93 then a.2.2.2.2.2.2.1.2.1 else bif x98 then x105.1 else a.2.2.2.2.2.2.1.2.1 else a.2.2.2.2.2.2.1.2.1
 let x107:Int:=bif x16 then bif a.2.2.2.1.2.2.2.1.1 !=7 then a.2.2.2.2.2.2.1.2.2 else bif x93 then a.2.2.2.2.2.2.1.2.2 else bif x98 then x105.2 else a.2.2.2.2.2.2.1.2.2 else a.2.2.2.2.2.2.1.2.2
 let x108:QT3:=(x104,x106,x107)
 let x109:=x102.2.2.2.2.2.2.2.2.2.2.2.2.2.2.2.1&&Zaa x108
 let x110:List (Int×Int):=bif x16 then bif a.2.2.2.1.2.2.2.1.1 !=7 then ZcB a.2.2.2.2.2.2.2.2.1.2.1 a.2.2.2.2.1 a.2.2.2.1.2.2.2.1.2.1 a.2.2.2.1.2.2.2.1.2.2.1 else a.2.2.2.2.1 else a.2.2.2.2.1
 let x111:= !x109||smG a.2.2.2.2.2.2.2.2.1.2.1&&smC x110
 let p19:=( !x111)::p13
 let x113:=a.2.2.2.2.2.2.2.2.2.2.2.2.1
 let x114:List PINT:=x113++[x102]
 let x115:=Nat.ble (Le x114) most
 let p21:=( !x115)::p19
 let x117:=x102.1
 let x118:=x117 !=10
 let x119:= !x118||ZmM a.2.2.2.1&&x10
 let p32:=( !x119)::p21
 let x121:=x117==1
 let x122:=a.2.2.2.2.2.2.2.2.2.2.2.2.2
 let x123:=x122.1
 let x124:=ZaB a.2.2.2.1 x36 x100
 let x125:=x124.2
 let x126:=x125.2
 let x127:=x126.2
 let x128:=x127.1
 let x129:=x128.2
 let x130:=x129.2
 let x131:QT15:=(bif x118 then x128.1 else 0,bif x118 then x129.1 else 0,bif x118 then x130.1 else 0,bif x118 then x130.2 else 0)
 let x132:=a.2.2.2.1.1.2.2.2.2.2.2.2.2
 let x133:=x132.2
 let x134:=x133.2.2.2
 let x135:Int×Int×Bool×Bool:=(0,1,a.2.2.2.1.1.2.2.1,x134)
 let x136:List ITMT:=x123++[(1,x131,x135)]
 let x137:= !x121||Nat.ble (Le x136) most
 let x138:= !x137
 let x139:=x117==7
 let x140:= !x139
 let x141:Nat:=Le x123
 let x142:=iN x141
 let x143:=i64.wrap (x142-1)
 let x144:=Zh x143 x141
 let x145:=x121||(x140||(!x144||x144))
 let x146:= !x145
 let x147:=x121||(x140||x144)
 let x148:= !x147
 let x149:=x117==2
 let x150:=x117==3
 let x151:=x117==4
 let x152:=x117==5
 let x153:=bif x149 then x149 else bif x150 then x150 else bif x151 then x151 else bif x152 then x152 else x117==6
 let x154:= !x153
 let x155:=x121||(x139||(x154||x144))
 let p1:=( !x155)::x148::x146::x138::[]
 let x157:ITMT:=R.get Zdu x123 x143
 let x158:=x157.1
 let x159:=x157.2
 let x160:=x159.1
 let x161:=x159.2
 let x162:=x161.1
 let x163:=x161.2
 let x164:=x163.2
 let x165:=setI x123 x143 (x158,x160,x162,x117,x164)
 let x166:=x121||(x139||(x154||Zh x143 (Le x165)))
 let p11:=( !x166)::p1
 let x168:=x117==8
 let p6:=( !x168)::x153::x139::x121::[]
 let x170:=decide (x142>0)
 let x171:= !x170
 let x172:=x171||x144
 let x173:= !x172
 let p15:=x170::x173::p6
 let x174:=x164.1==a.2.2.2.1.1.2.2.1&&x164.2==x134
 let x175:=x158==2&&x174
 let p23:=x175::x171::x173::p6
 let x176:TY×Int×Int×Bool×Bool:=((0,0,0,0),x135)
 let x177:List ITMT:=x123++[(2,x176)]
 let x178:=Nat.ble (Le x177) most
 let x179:=orR p23 x178
 let p16:=( !x179)::p11
 let x181:=orR p15 x178
 let p25:=( !x181)::p16
 let x183:=orR p6 x172
 let p31:=( !x183)::p25
 let x185:=x117==9
 let p10:=( !x185)::x168::x153::x139::x121::[]
 let p20:=x170::x173::p10
 let x187:=x158==3&&x174
 let p29:=x187::x171::x173::p10
 let x188:List ITMT:=x123++[(3,(0,a.2.2.2.1.1.2.1.2.2.2.2.2.2.2.2.2,0,0),x135)]
 let x189:=Nat.ble (Le x188) most
 let x190:=orR p29 x189
 let p34:=( !x190)::p31
 let x192:=orR p20 x189
 let p38:=( !x192)::p34
 let x194:=orR p10 x172
 let p42:=( !x194)::p38
 let x196:=x117==10
 let x197:= !x196
 let p28:=x170::x173::x197::x185::x168::x153::x139::x121::[]
 let x198:=x158==4&&x174
 let p35:=x198::x171::x173::x197::x185::x168::x153::x139::x121::[]
 let x199:List ITMT:=x123++[(4,x176)]
 let x200:=Nat.ble (Le x199) most
 let x201:=orR p35 x200
 let p48:=( !x201)::p42
 let x203:=orR p28 x200
 let p64:=x197::x185::x168::x153::x139::x121::(!x203)::p48
 let x204:=orR p64 x172
 let x205:= !x204
 let x206:=orR p48 x203
 let x207:= !x206
 let x208:=orR p42 x201
 let x209:= !x208
 let x210:=orR p38 x194
 let p2:=( !x210)::x209::x207::x205::[]
 let x212:=orR p34 x192
 let p8:=( !x212)::p2
 let x214:=orR p31 x190
 let p18:=( !x214)::p8
 let x216:=orR p25 x183
 let p24:=( !x216)::p18
 let x218:=orR p16 x181
 let p27:=( !x218)::p24
 let x220:=orR p11 x179
 let p33:=( !x220)::p27
 let x222:=orR p1 x166
 let p39:=( !x222)::p33
 let x224:=x138||(x146||(x148||x155))
 let p44:=( !x224)::p39
 let x226:=x138||(x146||x147)
 let p49:=( !x226)::p44
 let x228:=x138||x145
 let p50:=(!x228)::p49
 let x229:=orR p50 x137
 let p37:=( !x229)::p32
 let x231:=orR p49 x228
 let p41:=( !x231)::p37
 let x233:=orR p44 x226
 let p43:=( !x233)::p41
 let x235:=orR p39 x224
 let p47:=( !x235)::p43
 let x237:=orR p33 x222
 let p52:=( !x237)::p47
 let x239:=orR p27 x220
 let p54:=( !x239)::p52
 let x241:=orR p24 x218
 let p55:=( !x241)::p54
 let x243:=orR p18 x216
 let p57:=( !x243)::p55
 let x245:=orR p8 x214
 let p59:=( !x245)::p57
 let x247:=orR p2 x212
 let p61:=( !x247)::p59
 let x249:=x205||(x207||(x209||x210))
 let p65:=( !x249)::p61
 let x251:=x205||(x207||x208)
 let p66:=( !x251)::p65
 let x253:=x205||x206
 let p68:=( !x253)::p66
 let p71:=x205::p68
 let x255:= !Zt6 a.2.2.2.1||Nat.ble (Le a.2.2.2.1.2.2.1) most
 let x256:= !x255
 let x257:=x122.2
 let x258:=x257.1
 let x259:LINT×Bool×Bool×Bool×Bool×Int×Int:=(x36,a.2.2.2.1.1.2.2.2.2.2.2.2.1,a.2.2.2.1.1.2.2.2.2.2.2.1,x133.1,x132.1,0,0)
 let x260:List EVTT:=x258++[(6,a.2.2.2.1.2.1,a.2.2.2.1.2.2.1,x259)]
 let x261:=Nat.ble (Le x260) most
 let x262:=x257.2.1
 let x263:List TC:=x262++[a.2.2.2.2.2.2.2.2.2.2.1]
 let x264:= !Zt6 a.2.2.2.1||(!x261||Nat.ble (Le x263) most)
 let x265:= !x264
 let x266:= !Zt6 a.2.2.2.1||x261
 let p3:=( !x266)::x265::x256::x197::[]
 let x268:List EVTT:=(bif Zt6 a.2.2.2.1 then x260 else x258)++[(4,0,[],x259)]
 let x269:=Nat.ble (Le x268) most
 let x270:=x101.1
 let x271:=x270.1
 let x272:List TC:=(bif Zt6 a.2.2.2.1 then x263 else x262)++[x271]
 let x273:= !x269||Nat.ble (Le x272) most
 let p12:=(!x273)::p3
 let x274:=orR p12 x269
 let x275:= !x274
 let x276:=orR p3 x273
 let x277:= !x276
 let x278:=x197||(x256||(x265||x266))
 let x279:= !x278
 let x280:=x197||(x256||x264)
 let p5:=( !x280)::x279::x277::x275::[]
 let x282:=x197||x255
 let p9:=( !x282)::p5
 let x284:=x118&&x124.1
 let x285:= !x284
 let x286:=x127.2.2.2.2.2.2.2
 let x287:=x286.2
 let x288:=x287.2
 let x289:List EVTT:=x258++[(bif a.2.2.2.1.2.1==0 then 1 else bif a.2.2.2.1.2.1==5 then 2 else 3,a.2.2.2.1.2.1,bif x118 then x126.1 else [],x36,x118&&x287.1,x118&&x286.1,x118&&x288.2.1,x118&&x288.1,0,0)]
 let x290:=Nat.ble (Le x289) most
 let x291:=x125.1
 let x292:Int:=bif x118 then x291.1 else 0
 let x293:=x291.2
 let x294:=x293.1
 let x295:Int:=bif x118 then x294.1 else 0
 let x296:=x294.2
 let x297:Int:=bif x118 then x296.1 else 0
 let x298:=x296.2
 let x299:Int:=bif x118 then x298.1 else 0
 let x300:=x298.2
 let x301:Int:=bif x118 then x300.1 else 0
 let x302:=x300.2
 let x303:Int:=bif x118 then x302.1 else 0
 let x304:=x302.2
 let x305:Int:=bif x118 then x304.1 else 0
 let x306:=x304.2
 let x307:Int:=bif x118 then x306.1 else 0
 let x308:=x306.2
 let x309:=x308.1
 let x310:=x118&&x309.1
 let x311:=x309.2
 let x312:=x118&&x311.1
 let x313:=x311.2
 let x314:=x118&&x313.1
 let x315:=x313.2
 let x316:=x118&&x315.1
 let x317:=x315.2
 let x318:=x118&&x317.1
 let x319:=x317.2
 let x320:=x118&&x319.1
 let x321:=x118&&x319.2
 let x322:=x308.2
 let x323:Int:=bif x118 then x322.1 else 0
 let x324:Int:=bif x118 then x322.2 else 0
 let x325:=x293.2
 let x326:=x118&&x325.1
 let x327:=x325.2
 let x328:=x118&&x327.1
 let x329:=x327.2
 let x330:=x118&&x329.1
 let x331:=x329.2
 let x332:Int:=bif x118 then x331.1 else 0
 let x333:=x331.2
 let x334:=x118&&x333.1
 let x335:=x333.2
 let x336:=x118&&x335.1
 let x337:=x335.2
 let x338:=x118&&x337.1
 let x339:=x337.2
 let x340:=x118&&x339.1
 let x341:=x339.2
 let x342:=x118&&x341.1
 let x343:=x341.2
 let x344:=x118&&x343.1
 let x345:=x118&&x343.2
 let x346:List TC:=x262++[(x292,(x295,x297,x299,x301,x303,x305,x307,(x310,x312,x314,x316,x318,x320,x321),x323,x324),x326,x328,x330,x332,x334,x336,x338,x340,x342,x344,x345)]
 let x347:=x196||(x285||(!x290||Nat.ble (Le x346) most))
 let p30:=x285::x196::(!x347)::p9
 let x348:=orR p30 x290
 let p73:=( !x348)::p71
 let x350:=orR p9 x347
 let p74:=( !x350)::p73
 let x352:=orR p5 x282
 let p77:=( !x352)::p74
 let x354:=x275||(x277||(x279||x280))
 let p78:=( !x354)::p77
 let x356:=x275||(x277||x278)
 let p80:=( !x356)::p78
 let x358:=x275||x276
 let p82:=( !x358)::p80
 let p85:=x275::p82
 let x360:=ZbF x108
 let x361:=x360.2
 let x362:=x109&&x361.2
 let x363:= !x362
 let x364:List EVTT:=bif x196 then x268 else bif x284 then x289 else x258
 let x365:=x361.1
 let x366:=x365.1
 let x367:=x365.2
 let x368:List EVTT:=x364++[(5,0,[],(false,false,false,false,false,false,false,false,false),false,false,false,false,bif x109 then x366 else 0,bif x109 then x367 else 0)]
 let x369:=Nat.ble (Le x368) most
 let x370:List TC:=bif x196 then x272 else bif x284 then x346 else x262
 let x371:Int:=bif x196 then x271.1 else bif x284 then x292 else a.2.2.2.2.2.2.2.2.2.2.1.1
 let x372:=x271.2
 let x373:=x372.1
 let x374:=a.2.2.2.2.2.2.2.2.2.2.1.2.1
 let x375:Int:=bif x196 then x373.1 else bif x284 then x295 else x374.1
 let x376:=x373.2
 let x377:=x374.2
 let x378:Int:=bif x196 then x376.1 else bif x284 then x297 else x377.1
 let x379:=x376.2
 let x380:=x377.2
 let x381:Int:=bif x196 then x379.1 else bif x284 then x299 else x380.1
 let x382:=x379.2
 let x383:=x380.2
 let x384:Int:=bif x196 then x382.1 else bif x284 then x301 else x383.1
 let x385:=x382.2
 let x386:=x383.2
 let x387:Int:=bif x196 then x385.1 else bif x284 then x303 else x386.1
 let x388:=x385.2
 let x389:=x386.2
 let x390:Int:=bif x196 then x388.1 else bif x284 then x305 else x389.1
 let x391:=x388.2
 let x392:=x389.2
 let x393:Int:=bif x196 then x391.1 else bif x284 then x307 else x392.1
 let x394:=x391.2
 let x395:=x394.1
 let x396:=x392.2
 let x397:=x396.1
 let x398:=bif x196 then x395.1 else bif x284 then x310 else x397.1
 let x399:=x395.2
 let x400:=x397.2
 let x401:=bif x196 then x399.1 else bif x284 then x312 else x400.1
 let x402:=x399.2
 let x403:=x400.2
 let x404:=bif x196 then x402.1 else bif x284 then x314 else x403.1
 let x405:=x402.2
 let x406:=x403.2
 let x407:=bif x196 then x405.1 else bif x284 then x316 else x406.1
 let x408:=x405.2
 let x409:=x406.2
 let x410:=bif x196 then x408.1 else bif x284 then x318 else x409.1
 let x411:=x408.2
 let x412:=x409.2
 let x413:=bif x196 then x411.1 else bif x284 then x320 else x412.1
 let x414:=bif x196 then x411.2 else bif x284 then x321 else x412.2
 let x415:=x394.2
 let x416:=x396.2
 let x417:Int:=bif x196 then x415.1 else bif x284 then x323 else x416.1
 let x418:Int:=bif x196 then x415.2 else bif x284 then x324 else x416.2
 let x419:=x372.2
 let x420:=a.2.2.2.2.2.2.2.2.2.2.1.2.2
 let x421:=bif x196 then x419.1 else bif x284 then x326 else x420.1
 let x422:=x419.2
 let x423:=x420.2
 let x424:=bif x196 then x422.1 else bif x284 then x328 else x423.1
 let x425:=x422.2
 let x426:=x423.2
 let x427:=bif x196 then x425.1 else bif x284 then x330 else x426.1
 let x428:=x425.2
 let x429:=x426.2
 let x430:Int:=bif x196 then x428.1 else bif x284 then x332 else x429.1
 let x431:=x428.2
 let x432:=x429.2
 let x433:=bif x196 then x431.1 else bif x284 then x334 else x432.1
 let x434:=x431.2
 let x435:=x432.2
 let x436:=bif x196 then x434.1 else bif x284 then x336 else x435.1
 let x437:=x434.2
 let x438:=x435.2
 let x439:=bif x196 then x437.1 else bif x284 then x338 else x438.1
 let x440:=x437.2
 let x441:=x438.2
 let x442:=bif x196 then x440.1 else bif x284 then x340 else x441.1
 let x443:=x440.2
 let x444:=x441.2
 let x445:=bif x196 then x443.1 else bif x284 then x342 else x444.1
 let x446:=x443.2
 let x447:=x444.2
 let x448:=bif x196 then x446.1 else bif x284 then x344 else x447.1
 let x449:=bif x196 then x446.2 else bif x284 then x345 else x447.2
 let x450:List TC:=x370++[(x371,(x375,x378,x381,x384,x387,x390,x393,(x398,x401,x404,x407,x410,x413,x414),x417,x418),x421,x424,x427,x430,x433,x436,x439,x442,x445,x448,x449)]
 let x451:=x363||(!x369||Nat.ble (Le x450) most)
 let p87:=x363::(!x451)::p85
 let x452:=orR p87 x369
 let x453:= !x452
 let x454:=orR p85 x451
 let x455:= !x454
 let x456:=orR p82 x274
 let p4:=( !x456)::x455::x453::(!Zh a.2.2.1 (Le a.1))::[]
 let x458:=orR p80 x358
 let p14:=( !x458)::p4
 let x460:=orR p78 x356
 let p17:=( !x460)::p14
 let x462:=orR p77 x354
 let p22:=( !x462)::p17
 let x464:=orR p74 x352
 let p26:=( !x464)::p22
 let x466:=orR p73 x350
 let p36:=( !x466)::p26
 let x468:=orR p71 x348
 let p40:=( !x468)::p36
 let x470:=orR p68 x204
 let p45:=( !x470)::p40
 let x472:=orR p66 x253
 let p46:=( !x472)::p45
 let x474:=orR p65 x251
 let p51:=( !x474)::p46
 let x476:=orR p61 x249
 let p53:=( !x476)::p51
 let x478:=orR p59 x247
 let p56:=( !x478)::p53
 let x480:=orR p57 x245
 let p58:=( !x480)::p56
 let x482:=orR p55 x243
 let p60:=( !x482)::p58
 let x484:=orR p54 x241
 let p62:=( !x484)::p60
 let x486:=orR p52 x239
 let p63:=( !x486)::p62
 let x488:=orR p47 x237
 let p67:=( !x488)::p63
 let x490:=orR p43 x235
 let p69:=( !x490)::p67
 let x492:=orR p41 x233
 let p70:=( !x492)::p69
 let x494:=orR p37 x231
 let p72:=( !x494)::p70
 let x496:=orR p32 x229
 let p75:=( !x496)::p72
 let x498:=orR p21 x119
 let p76:=( !x498)::p75
 let x500:=orR p19 x115
 let p79:=( !x500)::p76
 let x502:=orR p13 x111
 let p81:=( !x502)::p79
 let x504:=orR p7 x22
 let p83:=( !x504)::p81
 let x506:=x6||(x15||(!ZmM a.2.2.2.1||x20))
 let p84:=( !x506)::p83
 let x508:=x6||(x15||ZmM a.2.2.2.1)
 let p86:=( !x508)::p84
 let x510:=x6||x14
 let p88:=(!x510)::p86
 let x511:=x90.1
 let x512:=x96.1
 let x513:Int:=bif x12 then bif x3 then x39 else bif x37 then bif x38 then x511.1 else x39 else bif x93 then x512.1 else x39 else x39
 let x514:=x511.2
 let x515:=x512.2
 let x516:=bif x12 then bif x3 then x41 else bif x37 then bif x38 then x514.1 else x41 else bif x93 then x515.1 else x41 else x41
 let x517:=x514.2
 let x518:=x515.2
 let x519:=bif x12 then bif x3 then x43 else bif x37 then bif x38 then x517.1 else x43 else bif x93 then x518.1 else x43 else x43
 let x520:=x517.2
 let x521:=x518.2
 let x522:=bif x12 then bif x3 then x45 else bif x37 then bif x38 then x520.1 else x45 else bif x93 then x521.1 else x45 else x45
 let x523:=x520.2
 let x524:=x521.2
 let x525:=bif x12 then bif x3 then x47 else bif x37 then bif x38 then x523.1 else x47 else bif x93 then x524.1 else x47 else x47
 let x526:=x523.2
 let x527:=x524.2
 let x528:Int:=bif x12 then bif x3 then x49 else bif x37 then bif x38 then x526.1 else x49 else bif x93 then x527.1 else x49 else x49
 let x529:=x526.2
 let x530:=x527.2
 let x531:Int:=bif x12 then bif x3 then x51 else bif x37 then bif x38 then x529.1 else x51 else bif x93 then x530.1 else x51 else x51
 let x532:=x529.2
 let x533:=x530.2
 let x534:=bif x12 then bif x3 then x54 else bif x37 then bif x38 then x532.1 else x54 else bif x93 then x533.1 else x54 else x54
 let x535:=x532.2
 let x536:=x533.2
 let x537:=bif x12 then bif x3 then x57 else bif x37 then bif x38 then x535.1 else x57 else bif x93 then x536.1 else x57 else x57
 let x538:=x535.2
 let x539:=x536.2
 let x540:=bif x12 then bif x3 then x60 else bif x37 then bif x38 then x538.1 else x60 else bif x93 then x539.1 else x60 else x60
 let x541:=x538.2
 let x542:=x539.2
 let x543:=bif x12 then bif x3 then x63 else bif x37 then bif x38 then x541.1 else x63 else bif x93 then x542.1 else x63 else x63
 let x544:=x541.2
 let x545:=x542.2
 let x546:=bif x12 then bif x3 then x66 else bif x37 then bif x38 then x544.1 else x66 else bif x93 then x545.1 else x66 else x66
 let x547:=x544.2
 let x548:=x545.2
 let x549:Int:=bif x12 then bif x3 then x69 else bif x37 then bif x38 then x547.1 else x69 else bif x93 then x548.1 else x69 else x69
 let x550:=x547.2
 let x551:=x548.2
 let x552:Int:=bif x12 then bif x3 then x72 else bif x37 then bif x38 then x550.1 else x72 else bif x93 then x551.1 else x72 else x72
 let x553:=x550.2
 let x554:=x551.2
 let x555:Int:=bif x12 then bif x3 then x75 else bif x37 then bif x38 then x553.1 else x75 else bif x93 then x554.1 else x75 else x75
 let x556:=x553.2
 let x557:=x554.2
 let x558:Int:=bif x12 then bif x3 then x78 else bif x37 then bif x38 then x556.1 else x78 else bif x93 then x557.1 else x78 else x78
 let x559:=x556.2
 let x560:=x557.2
 let x561:Int:=bif x12 then bif x3 then x81 else bif x37 then bif x38 then x559.1 else x81 else bif x93 then x560.1 else x81 else x81
 let x562:=x559.2
 let x563:=x560.2
 let x564:Int:=bif x12 then bif x3 then x84 else bif x37 then bif x38 then x562.1 else x84 else bif x93 then x563.1 else x84 else x84
 let x565:=x562.2
 let x566:=x563.2
 let x567:Int:=bif x12 then bif x3 then x87 else bif x37 then bif x38 then x565.1 else x87 else bif x93 then x566.1 else x87 else x87
 let x568:=bif x12 then bif x3 then x88 else bif x37 then bif x38 then x565.2 else x88 else bif x93 then x566.2 else x88 else x88
 let x569:=Zml (x513,x516,x519,x522,x525,x528,x531,x534,x537,x540,x543,x546,x549,x552,x555,x558,x561,x564,x567,x568) x95 a.2.2.2.1.2.2.2.1.2.2.1
 let x570:=x569.2
 let x571:=x570.2
 let x572:=x571.2
 let x573:=x572.2
 let x574:=x573.2
 let x575:=x574.2
 let x576:=x575.2
 let x577:=x576.2
 let x578:=x577.2
 let x579:=x578.2
 let x580:=x579.2
 let x581:=x580.2
 let x582:=x581.2
 let x583:=x582.2
 let x584:=x583.2
 let x585:=x584.2
 let x586:=x585.2
 let x587:=x586.2
 let x588:=x360.1
 let x589:=x588.2
 let x590:ITMT:=R.get Zdu x165 x143
 let x591:=setI x123 x143 (x158,x160,x162,i64.wrap (x163.1+1),x164)
 .br (decide (a.2.2.1<a.2.1)) (.br (orR p88 x5) (.br (orR p86 x510) (.br (orR p84 x508) (.br (orR p83 x506) (.br (orR p81 x504) (.br (orR p79 x502) (.br (orR p76 x500) (.br (orR p75 x498) (.br (orR p72 x496) (.br (orR p70 x494) (.br (orR p69 x492) (.br (orR p67 x490) (.br (orR p63 x488) (.br (orR p62 x486) (.br (orR p60 x484) (.br (orR p58 x482) (.br (orR p56 x480) (.br (orR p53 x478) (.br (orR p51 x476) (.br (orR p46 x474) (.br (orR p45 x472) (.br (orR p40 x470) (.br (orR p36 x468) (.br (orR p26 x466) (.br (orR p22 x464) (.br (orR p17 x462) (.br (orR p14 x460) (.br (orR p4 x458) (.br (!Zh a.2.2.1 (Le a.1)||(x453||(x455||x456))) (.br (!Zh a.2.2.1 (Le a.1)||(x453||x454)) (.br (!Zh a.2.2.1 (Le a.1)||x452) (.br (Zh a.2.2.1 (Le a.1)) (Ls (Go1.cont (a.1,a.2.1,i64.wrap (a.2.2.1+1),x270,bif x109 then ZcB a.2.2.2.2.2.2.2.2.1.2.1 x110 x366 x367 else x110,(bif x16 then bif a.2.2.2.1.2.2.2.1.1 !=7 then x513 else bif x93 then x569.1 else x513 else x513,bif x16 then bif a.2.2.2.1.2.2.2.1.1 !=7 then x516 else bif x93 then x570.1 else x516 else x516,bif x16 then bif a.2.2.2.1.2.2.2.1.1 !=7 then x519 else bif x93 then x571.1 else x519 else x519,bif x16 then bif a.2.2.2.1.2.2.2.1.1 !=7 then x522 else bif x93 then x572.1 else x522 else x522,bif x16 then bif a.2.2.2.1.2.2.2.1.1 !=7 then x525 else bif x93 then x573.1 else x525 else x525,bif x16 then bif a.2.2.2.1.2.2.2.1.1 !=7 then x528 else bif x93 then x574.1 else x528 else x528,bif x16 then bif a.2.2.2.1.2.2.2.1.1 !=7 then x531 else bif x93 then x575.1 else x531 else x531,bif x16 then bif a.2.2.2.1.2.2.2.1.1 !=7 then x534 else bif x93 then x576.1 else x534 else x534,bif x16 then bif a.2.2.2.1.2.2.2.1.1 !=7 then x537 else bif x93 then x577.1 else x537 else x537,bif x16 then bif a.2.2.2.1.2.2.2.1.1 !=7 then x540 else bif x93 then x578.1 else x540 else x540,bif x16 then bif a.2.2.2.1.2.2.2.1.1 !=7 then x543 else bif x93 then x579.1 else x543 else x543,bif x16 then bif a.2.2.2.1.2.2.2.1.1 !=7 then x546 else bif x93 then x580.1 else x546 else x546,bif x16 then bif a.2.2.2.1.2.2.2.1.1 !=7 then x549 else bif x93 then x581.1 else x549 else x549,bif x16 then bif a.2.2.2.1.2.2.2.1.1 !=7 then x552 else bif x93 then x582.1 else x552 else x552,bif x16 then bif a.2.2.2.1.2.2.2.1.1 !=7 then x555 else bif x93 then x583.1 else x555 else x555,bif x16 then bif a.2.2.2.1.2.2.2.1.1 !=7 then x558 else bif x93 then x584.1 else x558 else x558,bif x16 then bif a.2.2.2.1.2.2.2.1.1 !=7 then x561 else bif x93 then x585.1 else x561 else x561,bif x9 then 0 else bif x16 then bif a.2.2.2.1.2.2.2.1.1 !=7 then x564 else bif x93 then x586.1 else x564 else x564,bif x16 then bif a.2.2.2.1.2.2.2.1.1 !=7 then x567 else bif x93 then x587.1 else x567 else x567,bif x16 then bif a.2.2.2.1.2.2.2.1.1 !=7 then x568 else bif x93 then x587.2 else x568 else x568),(bif x109 then x588.1 else x104,bif x109 then x589.1 else x106,bif x9 then 0 else bif x109 then x589.2 else x107),x24,a.2.2.2.2.2.2.2.2.1,a.2.2.2.2.2.2.2.2.2.1,(bif x362 then x371 else x371,(bif x362 then x375 else x375,bif x362 then x378 else x378,bif x362 then x381 else x381,bif x362 then x384 else x384,bif x362 then x387 else x387,bif x362 then x390 else x390,bif x362 then x393 else x393,(bif x362 then x398 else x398,bif x362 then x401 else x401,bif x362 then x404 else x404,bif x362 then x407 else x407,bif x362 then x410 else x410,bif x362 then x413 else x413,bif x362 then x414 else x414),bif x362 then x417 else x417,bif x362 then x418 else x418),bif x362 then x421 else x421,bif x362 then x424 else x424,bif x362 then x427 else x427,bif x362 then x430 else x430,bif x362 then x433 else x433,bif x362 then x436 else x436,bif x362 then x439 else x439,bif x362 then x442 else x442,bif x362 then x445 else x445,bif x362 then x448 else x448,bif x362 then x449 else x449),bif x16 then bif a.2.2.2.1.2.2.2.1.1 !=7 then a.2.2.2.2.2.2.2.2.2.2.2.1 else x19 else a.2.2.2.2.2.2.2.2.2.2.2.1,x114,bif x121 then x136 else bif x139 then setI x123 x143 (x158,x160,i64.wrap (x162+1),x163) else bif x153 then setI x165 x143 (x590.1,x131,x590.2.2) else bif x168 then bif x170 then bif x175 then x591 else x177 else x177 else bif x185 then bif x170 then bif x187 then x591 else x188 else x188 else bif x196 then bif x170 then bif x198 then x591 else x199 else x199 else x123,bif x362 then x368 else x364,bif x362 then x450 else x370,PUnit.unit))) Ln) Ln) Ln) Ln) Ln) Ln) Ln) Ln) Ln) Ln) Ln) Ln) Ln) Ln) Ln) Ln) Ln) Ln) Ln) Ln) Ln) Ln) Ln) Ln) Ln) Ln) Ln) Ln) Ln) Ln) Ln) Ln) (Ls (Go1.brk (a.1,a.2.1,a.2.2.1,a.2.2.2.1,a.2.2.2.2.1,a.2.2.2.2.2.1,a.2.2.2.2.2.2.1,a.2.2.2.2.2.2.2.1,a.2.2.2.2.2.2.2.2.1,a.2.2.2.2.2.2.2.2.2.1,a.2.2.2.2.2.2.2.2.2.2.1,a.2.2.2.2.2.2.2.2.2.2.2.1,x113,x123,x258,x262,PUnit.unit)))
def ZFr:Ora:=Zbq false ZSB Zc1 (λa=>1000000000000)
theorem ZH2:Za1 (envX prog [(23,Zg6),(24,Zj3),(25,Zbf),(26,Zbk),(27,ZaV)] [] 2047 8) (.block 0 (.loop (Z5 Tryz.f7.body 0))) ZFr:=
 loopP ⟨Zh1,ZkY,Zb2,Zb4,ZbL,Tv⟩
def Zrl (b:BRDT) (l:List Int):RT (Option (RUNT×Int)):=
 let x1:TC:=(0,(0,0,0,0,0,0,0,(false,false,false,false,false,false,false),0,0),false,false,false,0,false,false,false,false,false,false,false)
 let x2:CORT:=(x1,0,[],(0,0,0,0),0,false)
 let x3:PICT:=(0,false,false,false,false,0,0,false,false,false,false,false,0,0,0,0,0,0,0,false)
 let x4:SYST:=(x2,[],x3,(0,0,0),0,[])
 let x5:List INPT×Int×Int×CORT×List (Int×Int)×PICT×(QT3)×Int×BRDT×SYST×TC×List (Int×Int)×List PINT×List ITMT×List EVTT×List TC×PUnit:=(decX l,iN (Le (decX l)),0,x2,[],x3,(0,0,0),0,b,x4,x1,[],[],[],[],[],())
 let x6:=runF false Zc1 (λa=>1000000000000) x5
 let x7:QT11:=(getO (false,x5) x6).2.2.2.2
 let x8:=x7.1
 let x9:=Zt6 x8
 let x10:= !x9
 let x11:=x8.2
 let x12:=x11.2.1
 let x13:=Nat.ble (Le x12) most
 let x14:= !x13
 let x15:=x7.2
 let x16:=x15.2
 let x17:=x16.2
 let x18:=x17.2
 let x19:=x18.2.2.2
 let x20:=x19.2
 let x21:=x20.2
 let x22:=x21.2
 let x23:=x22.2
 let x24:=x23.1
 let x25:LINT×Bool×Bool×Bool×Bool×Int×Int:=((false,false,false,false,false,false,false,false,false),false,false,false,false,0,0)
 let x26:List EVTT:=x24++[(7,x11.1,x12,x25)]
 let x27:=Nat.ble (Le x26) most
 let x28:=x23.2.1
 let x29:List TC:=x28++[x19.1]
 let x30:=x10||(x14||(!x27||Nat.ble (Le x29) most))
 let x31:= !x30
 let x32:=x10||(x14||x27)
 let x33:List INPT×Int×Int×CORT×List (Int×Int)×PICT×(QT3)×Int×BRDT×SYST×TC×List (Int×Int)×List PINT×List ITMT×List EVTT×List TC×PUnit:=(decX l,iN (Le (decX l)),0,newX b.1,b.2.2.2.2.2.2,ZVl,(0,0,0),0,b,x4,(newX b.1).1,[],[],[],[],[],())
 let x34:=runF false Zc1 (λa=>1000000000000) x33
 let x35:QT11:=(getO (false,x33) x34).2.2.2.2
 let x36:=x35.1
 let x37:=Zt6 x36
 let x38:= !x37
 let x39:=x36.2
 let x40:=x39.2.1
 let x41:=Nat.ble (Le x40) most
 let x42:= !x41
 let x43:=x35.2
 let x44:=x43.2
 let x45:=x44.2
 let x46:=x45.2
 let x47:=x46.2.2.2
 let x48:=x47.2
 let x49:=x48.2
 let x50:=x49.2
 let x51:=x50.2
 let x52:=x51.1
 let x53:List EVTT:=x52++[(7,x39.1,x40,x25)]
 let x54:=Nat.ble (Le x53) most
 let x55:=x51.2.1
 let x56:List TC:=x55++[x47.1]
 let x57:=x38||(x42||(!x54||Nat.ble (Le x56) most))
 let x58:= !x57
 let x59:=x38||(x42||x54)
 .br (!ZjP b||(Zit b !=0||Nat.ble (Le b.2.2.2.2.2.2) most)) (.br (ZjP b) (.br (Zit b !=0) (.br (Zit b !=0) (Ls ((([],[],[],[],x4),Zit b))) (.br (ZyQ l) (.br (okB x6) (.br (x31||(!x32||(x10||x13))) (.br (x31||x32) (.br (x30) (Ls (((x21.1,x22.1,bif x9 then x26 else x24,bif x9 then x29 else x28,x8,x15.1,x16.1,x17.1,x18.1,x20.1),0))) Ln) Ln) Ln) Ln) Ln)) (.br (ZyQ l) (.br (okB x34) (.br (x58||(!x59||(x38||x41))) (.br (x58||x59) (.br (x57) (Ls (((x49.1,x50.1,bif x37 then x53 else x52,bif x37 then x56 else x55,x36,x43.1,x44.1,x45.1,x46.1,x48.1),0))) Ln) Ln) Ln) Ln) Ln)) Ln) Ln
def ZZo (b:BRDT) (l:List Int):RUNT×Int:=getO ZpD.Df (Zrl b l).val
def ZT3 (b:BRDT) (l:List Int):Bool:=okB (Zrl b l).val
def ZZn:En:=Zf ZuX ZpD (λa=>some (ZT3 a.1 a.2)) (λa=>ZZo a.1 a.2)
theorem ZSA:Za prog 7 ZZn:=
 pureP 2047 [(23,Zg6),(24,Zj3),(25,Zbf),(26,Zbk),(27,ZaV)] [(0,ZFr)] _ _ ⟨Zh1,ZkY,Zb2,Zb4,ZbL,Tv⟩ Tryz.func7 Tryz.call7 ⟨ZH2,Tv⟩
end
end Go.Proofs.YteaflmalcclnoaaGreatDoor
open Go Go.S3 Go.Proofs Go.Proofs.Cells
namespace Go.Proofs.YteaflmalcclnoaaGreatDoor
noncomputable section
structure Rm (rg:List ZS) (m:List Cell) (outs:List (Int×Int)) (g:List Int):Prop where
 r:smG rg=true
 m:smC m=true
 o:∀x,Nat.ble (outs++[x]).length most=true
 g:∀x,Nat.ble (g++[x]).length most=true
theorem lval9 {t:RT (Option Bool)} (h:t.val=some true):okB t.val=true/\getO false t.val=true:=by rw[h];exact⟨rfl,rfl⟩
theorem ZIp (b:BRDT) (hg:smG b.2.1=true) (hm:smC b.2.2.2.2.2.2=true) (h:Zci b=0):vldB b.2.2.2.2.2.2=true:=by
 have hv:(ZfD b).val=some (bif b.1 !=1&&b.1 !=2 then 1 else bif ZbM b.2.1 !=0 then ZbM b.2.1 else bif decide (b.2.2.1<0)||(decide (b.2.2.1>100)|| !vldB b.2.2.2.2.2.2) then 1 else 0):=by
  unfold ZfD;simp only[RT.val,hg,hm,Yk,Ya];cases b.1 !=1&&b.1 !=2
  ·cases ZbM b.2.1 !=0
   ·cases decide (b.2.2.1<0)||(decide (b.2.2.1>100)|| !vldB b.2.2.2.2.2.2)<;>rfl
   ·rfl
  ·rfl
 simp only[Zci,hv,getO] at h;cases hx:vldB b.2.2.2.2.2.2
 ·rw[hx] at h;simp only[Ym,Yk,Ya] at h;cases h1:b.1 !=1&&b.1 !=2
  ·rw[h1] at h;cases h2:ZbM b.2.1 !=0
   ·rw[h2] at h;simp at h
   ·rw[h2] at h;simp only[Ya,Yc] at h;rw[h] at h2;simp at h2
  ·rw[h1] at h;simp at h
 ·rfl
theorem eqf_refl:∀(r:R) (x:r.den) (e:Bool),R.eqf r x x e=e
 | .int _,x,e=>by show (((x:Int)==x)&&e)=e;rw[YaE,YQ]
 | .bool,x,e=>by show (((x:Bool)==x)&&e)=e;rw[YaE,YQ]
 | .Pq a b,x,e=>by show a.eqf x.1 x.1 (b.eqf x.2 x.2 e)=e;rw[eqf_refl b,eqf_refl a]
 | .str,_,e=>rfl
 | .sl _,_,e=>rfl
 | .unit,_,e=>rfl
def ZWK (b:BRDT):RT TC:=
 let x1:TR:=(0,0,0,0,0,0,0,(false,false,false,false,false,false,false),0,0)
 let x2:=ZY (b.1,x1,false,false,false,0,false,false,false,false,false,false,false)
 .Lf ((x2.1,x1,false,false,false,x2.2.2.2.2.2.1,false,false,false,false,false,false,false))
def ZNG (b:BRDT):TC:=(ZWK b).val
theorem Zcz (e:EVTT) (c:TC) (l:LINT):ZjT e c l=(e.1,e.2.1,e.2.2.1,l,c.2.2.2.2.2.2.2.1,c.2.2.2.2.2.2.1,c.2.2.2.2.2.2.2.2.2.1,c.2.2.2.2.2.2.2.2.1,e.2.2.2.2.2.2.2.2):=rfl
def EvB (ev:List EVTT) (n:Nat):Prop:=∀e∈ev,e.2.2.1.length<=n
variable {ev:List EVTT} {n:Nat}
theorem EvB.app (h:EvB ev n) {e:EVTT} (he:e.2.2.1.length<=n):EvB (ev++[e]) n:=λx hx=>by
 rcases YV.1 hx with hx|hx
 ·exact h x hx
 ·rw[Y8] at hx;subst hx;exact he
theorem EvB.mono {m:Nat} (h:EvB ev n) (hn:n<=m):EvB ev m:=λe he=>YD (h e he) hn
def cyA:TC->List EVTT->List TY
 |_,[]=>[]
 |c,e::l=>Zg3 c e++cyA (ZdT c e) l
theorem ZgS (c:TC) (l:List EVTT) (e:EVTT):Zbw c (l++[e])=ZdT (Zbw c l) e:=by unfold Zbw;rw[YaX];rfl
theorem Zpv:∀(l:List EVTT) (c:TC) (e:EVTT),cyA c (l++[e])=cyA c l++Zg3 (Zbw c l) e
 |[],c,e=>by simp[cyA,Zbw]
 |x::l,c,e=>by have:=Zpv l (ZdT c x) e;simp only[List.cons_append,cyA,this,Yo];rfl
theorem Zfj:∀(l:List EVTT) (c:TC) (e:EVTT),ZvP c (l++[e])=ZvP c l++[ZdT (Zbw c l) e]
 |[],c,e=>rfl
 |x::l,c,e=>by have:=Zfj l (ZdT c x) e;simp only[List.cons_append,ZvP,this];rfl
theorem Zq3 (c:TC) (l:List EVTT):Zlm c (ZvP c l)=Zbw c l:=by
 rcases Yag l with rfl|⟨l',e,rfl⟩
 ·rfl
 ·rw[Yac,Zfj,ZgS];simp[Zlm]
def cyI (l:List ITMT):List TY:=(l.filter λy=>y.1==1&&decide (y.2.2.2.1>=3)).map λy=>y.2.1
theorem Ze8 (l:List ITMT) (y:ITMT):cyI (l++[y])=cyI l++(bif y.1==1&&decide (y.2.2.2.1>=3) then [y.2.1] else []):=by unfold cyI;rw[List.filter_append,YaQ];cases h:y.1==1&&decide (y.2.2.2.1>=3)<;>simp[List.filter,h]
def unl (c:TC):Int×(Int×Int×Int×Int×Int×Int×Int×(Bool×Bool×Bool×Bool×Bool×Bool×Bool)×Int×Int)×Bool×Bool×Bool×Int×Bool×Bool×Bool:=(c.1,c.2.1,c.2.2.1,c.2.2.2.1,c.2.2.2.2.1,c.2.2.2.2.2.1,c.2.2.2.2.2.2.2.2.2.2)
theorem Zvf (c:TC) (l:LINT):unl (Ze c l)=unl c:=by unfold Ze Zsh;simp only[RT.val];cases !rOn c.1<;>rfl
theorem ZSF (c:TC):ZA c 0=c:=rfl
variable {a b:TC}
theorem ZUp (h:unl a=unl b) (s:Int):unl (ZA a s)=unl (ZA b s):=by
 unfold ZA ZiS;simp only[RT.val];cases decide (s<1)||decide (s>5)
 ·simp only[unl,pinj] at h|-;obtain⟨h1,h2,h3,h4,h5,h6,h7⟩:=h;simp only[h1,h2,h3,h4,h5,h6,h7,and_self];simp only[Yc,unl,h1,h2,h3,h4,h5,h6,h7,and_self]
 ·exact h
theorem ZJK (h1:a.1=b.1) (h2:a.2.1=b.2.1):ZY a=ZY b:=by unfold ZY ZmV;simp only[RT.val,h1,h2]
theorem Zu0 (c:TC) (s:Int):(ZA c s).1=c.1/\(ZA c s).2.1=c.2.1:=by unfold ZA ZiS;simp only[RT.val];cases decide (s<1)||decide (s>5)<;>exact⟨rfl,rfl⟩
theorem Zrz (h:unl a=unl b):a.1=b.1/\a.2.1=b.2.1:=by simp only[unl,pinj] at h;exact⟨h.1,h.2.1⟩
theorem ZSz (h1:a.1=b.1) (h2:a.2.1=b.2.1) (inj:Bool) (g:List Int) (i:InsT):Zg5 a inj g i=Zg5 b inj g i:=by unfold Zg5 Zcj Zbn opC ZcP popX ZW Zec ZgX ZfB pcOf spOf;simp only[h1,h2]
theorem ZEx (h:unl a=unl b) (s:Int) (g:List Int):Zm a s g=Zm b s g:=by
 obtain⟨h1,h2⟩:=Zrz h;have hp:Ze1 a s g=Ze1 b s g:=by
  unfold Ze1 pcOf ZcP spOf;simp only[h1,h2];cases Zz s
  ·cases g with
   |nil=>rfl
   |cons o g=>simp only[Yc,ZSz h1 h2]
  ·rfl
 unfold Zm;rw[hp]
theorem ZlT (c:TC) (s:Int):(Zm c s []).2=true:=by unfold Zm Ze1 pick;cases Zz s<;>rfl
variable {p q:TC}
theorem ZBC (h:unl p=unl q) (e:EVTT) (he:e.2.2.2.2.1=q.2.2.2.2.2.2.2.1/\e.2.2.2.2.2.1=q.2.2.2.2.2.2.1/\e.2.2.2.2.2.2.1=q.2.2.2.2.2.2.2.2.2.1/\e.2.2.2.2.2.2.2.1=q.2.2.2.2.2.2.2.2.1):ZDM p e=q:=by obtain⟨e1,e2,e3,e4⟩:=he;simp only[unl,pinj] at h;obtain⟨h1,h2,h3,h4,h5,h6,h7⟩:=h;unfold ZDM;rw[e1,e2,e3,e4,h1,h2,h3,h4,h5,h6,h7]
theorem ZOT (c:TC) (s:Int):∀(r g:List Int) (b:Int),(cyX c s g r).length=r.length->(Zm c s (g++r)).2=true->cyX c s g (r++[b])=cyX c s g r++[ZDL c (Zm c s (g++r)).1 b]/\(cyX c s g (r++[b])).length=(r++[b]).length
 |[],g,b,_,h=>by rw[YG] at h|-;simp only[List.nil_append,cyX,h,Ya,List.length_cons,List.length_nil,and_self]
 |x::r,g,b,hl,h=>by
  simp only[List.cons_append,cyX] at hl|-;cases hn:(Zm c s g).2
  ·rw[hn] at hl;simp at hl
  ·rw[hn] at hl;simp only[Ya,List.length_cons] at hl|-;have h':(Zm c s (g++[x]++r)).2=true:=by rw[Yo];exact h
   obtain⟨q1,q2⟩:=ZOT c s r (g++[x]) b (by omega) h';rw[q1] at q2|-;rw[Yo] at q2|-;exact⟨rfl,by simpa using q2⟩
structure Sem (s0:TC) (c:CORT) (ev:List EVTT) (cp:List TC) (it:List ITMT):Prop where
 hcp:cp=ZvP s0 ev
 un:unl c.1=unl (ZA (Zbw s0 ev) c.2.1)
 nx:1<=c.2.2.2.2.1/\c.2.2.2.2.1<=9
 rest:c.2.1=0->c.1.2.2.2.2.1=true->(c.2.2.2.2.1=8\/c.2.2.2.2.1=9)/\c.2.2.1=[]
 nine:c.2.2.2.2.1=9->c.2.1=0/\c.1.2.2.2.2.1=true
 cy:(c.2.2.2.2.1<4\/6<c.2.2.2.2.1)->c.2.2.2.1=(Zm c.1 c.2.1 c.2.2.1).1/\(Zm c.1 c.2.1 c.2.2.1).2=true
 hit:cyI it=cyA s0 ev++cyX (ZA (Zbw s0 ev) c.2.1) c.2.1 [] c.2.2.1
 ln:(cyX (ZA (Zbw s0 ev) c.2.1) c.2.1 [] c.2.2.1).length=c.2.2.1.length
 pt:(c.2.2.2.2.1=2\/c.2.2.2.2.1=3\/c.2.2.2.2.1=7)->∃(l:List ITMT) (y:ITMT),it=l++[y]/\y.1=1/\y.2.2.2.1=(bif c.2.2.2.2.1==2 then 1 else 2)
 ps:4<=c.2.2.2.2.1->c.2.2.2.2.1<=6->∃(l:List ITMT) (y:ITMT),it=l++[y]/\y.1=1/\y.2.2.2.1=c.2.2.2.2.1-1/\y.2.1=c.2.2.2.1
theorem ZUo (h:unl a=unl b):a.2.2.2.2.1=b.2.2.2.2.1:=by simp only[unl,pinj] at h;exact h.2.2.2.2.1
theorem Zfu (c:TC) (s:Int) (h:Bool):(idlX c s h=8\/idlX c s h=9\/idlX c s h=1)/\(idlX c s h=9->s=0/\c.2.2.2.2.1=true)/\(s=0->c.2.2.2.2.1=true->idlX c s h=8\/idlX c s h=9):=by
 unfold idlX;cases h
 ·cases hh:c.2.2.2.2.1&&s==0
  ·simp only[Yc];refine⟨.inr (.inr trivial),λe=>by omega,λe1 e2=> ?_⟩;rw[e1,e2] at hh;simp at hh
  ·simp only[Ya,Yc];simp at hh;exact⟨.inr (.inl trivial),λ_=>⟨hh.2,hh.1⟩,λ_ _=>.inr trivial⟩
 ·simp only[Ya];exact⟨.inl trivial,λe=>by omega,λ_ _=>.inl trivial⟩
variable {s0:TC} {c:CORT} {cp:List TC} {it:List ITMT}
theorem ZPW (h:Sem s0 c ev cp it) (e:EVTT) (h1:ZdT (Zbw s0 ev) e=Zbw s0 ev) (h2:Zg3 (Zbw s0 ev) e=[]):
  Sem s0 c (ev++[e]) (cp++[Zlm s0 cp]) it:=by
 have hl:Zbw s0 (ev++[e])=Zbw s0 ev:=by rw[ZgS,h1]
 refine⟨by rw[h.hcp,Zfj,Zq3,h1],by rw[hl];exact h.un,h.nx,h.rest,h.nine,h.cy,by rw[hl,Zpv,h2,YG];exact h.hit,by rw[hl];exact h.ln,h.pt,h.ps⟩
theorem Zxs (s:Int):Zx1 (Zmg s)=true:=by
 unfold Zmg ZSG Zx1;simp only[RT.val];cases Zz s
 ·cases s==5<;>rfl
 ·rfl
theorem ZJu (p:TC) (s:Int) (g:List Int) (h:Bool) (l:LINT) (hcp:cp=ZvP s0 ev) (un:unl p=unl (ZA (Zbw s0 ev) s)) (hh:s=0->p.2.2.2.2.1=true->False)
  (hit:cyI it=cyA s0 ev++cyX (ZA (Zbw s0 ev) s) s [] g) (ln:(cyX (ZA (Zbw s0 ev) s) s [] g).length=g.length):
  Sem s0 (endX p s g h l) (bif (Zm p s g).2 then ev else ev++[ZjT (Zmg s,s,g,Zh2,false,false,false,false,0,0) p l]) (bif (Zm p s g).2 then cp else cp++[finX p s g l]) it:=by
 unfold endX;dsimp only;cases hn:(Zm p s g).2
 ·simp only[Yc];generalize hq:finX p s g l=q;generalize ZbP q l=k;generalize he:ZjT (Zmg s,s,g,Zh2,false,false,false,false,0,0) p l=e;have hpat:ZDM (ZA (Zbw s0 ev) s) e=p:=ZBC un.symm e (by rw[<-he,Zcz];exact⟨rfl,rfl,rfl,rfl⟩);have ha:ZdT (Zbw s0 ev) e=q:=by
   have e1:e.1=Zmg s:=by rw[<-he,Zcz]
   have e2:e.2.1=s:=by rw[<-he,Zcz]
   have e3:e.2.2.1=g:=by rw[<-he,Zcz]
   have e4:e.2.2.2.1=l:=by rw[<-he,Zcz]
   unfold ZdT;rw[e1,Zxs,e2,hpat,e3,e4];exact hq
  have hc:Zg3 (Zbw s0 ev) e=cyX (ZA (Zbw s0 ev) s) s [] g:=by
   have e1:e.1=Zmg s:=by rw[<-he,Zcz]
   have e2:e.2.1=s:=by rw[<-he,Zcz]
   have e3:e.2.2.1=g:=by rw[<-he,Zcz]
   unfold Zg3 cycE;rw[e1,Zxs,e2,e3];rfl
  have hl:Zbw s0 (ev++[e])=q:=by rw[ZgS,ha]
  obtain⟨i1,i2,i3⟩:=Zfu (ZA q k) k h;refine⟨by rw[hcp,Zfj,ha],by rw[hl],?_,λa b=>⟨i3 a b,rfl⟩,i2,λ_=>⟨rfl,ZlT _ _⟩,?_,by rw[hl];rfl,λe=> ?_,λe1 e2=> ?_⟩
  ·show 1<=idlX (ZA q k) k h/\idlX (ZA q k) k h<=9;omega
  ·rw[hl,Zpv,hc,hit];show _=_++[];rw[YG]
  ·exfalso;replace e:idlX (ZA q k) k h=2\/idlX (ZA q k) k h=3\/idlX (ZA q k) k h=7:=e;omega
  ·exfalso;replace e1:4<=idlX (ZA q k) k h:=e1;replace e2:idlX (ZA q k) k h<=6:=e2;omega
 ·simp only[Ya];obtain⟨i1,i2,i3⟩:=Zfu p s h;refine⟨hcp,un,?_,λa b=>(hh a b).elim,λe=>((hh (i2 e).1 (i2 e).2)).elim,λ_=>⟨rfl,hn⟩,hit,ln,λe=> ?_,λe1 e2=> ?_⟩
  ·show 1<=idlX p s h/\idlX p s h<=9;omega
  ·exfalso;replace e:idlX p s h=2\/idlX p s h=3\/idlX p s h=7:=e;omega
  ·exfalso;replace e1:4<=idlX p s h:=e1;replace e2:idlX p s h<=6:=e2;omega
variable {k:Int}
theorem Zpu {l:List ITMT} {n:ITMT} (hk:k≠1) (hn:n.1=k):cyI (Zgi l k c n)=cyI l:=by
 have h1:∀y:ITMT,y.1=k->∀l,cyI (l++[y])=cyI l:=λy hy l=>by
  rw[Ze8];have:(y.1==1)=false:=by rw[hy];simpa using hk
  rw[this];simp
 unfold Zgi;cases hl:l.getLast? with
 |none=>exact h1 n hn l
 |some y=>
  simp only;obtain⟨l',rfl⟩:∃l',l=l'++[y]:=by
   rcases Yag l with rfl|⟨l',z,rfl⟩
   ·simp at hl
   ·rw[Yac] at hl|-;simp at hl;subst hl;exact⟨l',rfl⟩
  cases hs:ZyM y k c
  ·exact h1 n hn _
  ·have hy:y.1=k:=by simp[ZyM] at hs;exact hs.1
   simp only[Ya,Z4];rw[h1 (Zw8 y) hy,h1 y hy]
theorem Zlh (c:CORT) (t d:Int) (h:(t==3)=false):Zp c t d=c.2.2.2.1:=by unfold Zp Ziy;simp only[RT.val,h,Yc]
theorem ZZj (c:CORT) (d:Int) (p:TC) (h:p.1=c.1.1):Zp c 3 d=ZaE p c.2.2.2.1 d:=by unfold Zp Ziy ZaE;rw[h];rfl
theorem ZvQ (h:p.1=q.1) (x:TY) (d:Int):ZaE p x d=ZaE q x d:=by unfold ZaE;rw[h]
theorem ZF7 (p a:TC) (h:a.1=p.1) (x:TY) (d:Int):ZDL a x (ZaE p x d).2.2.1=ZaE p x d:=by unfold ZDL ZaE;rw[h];cases Zba x.1<;>rfl
theorem ZR7 (ev:List EVTT) (c:CORT) (l:LINT) (d:Int) (cell:Cell) (hr:l.2.2.1=false):evE ev c l d cell false=bif (finS c l d).2 then ev++[ZjT (Zmg c.2.1,c.2.1,ZeW c (Zq c) d,Zh2,false,false,false,false,0,0) (Ze c.1 l) l] else ev:=by unfold evE;rw[hr];rfl
theorem ZR8 (cp:List TC) (s0:TC) (c a:CORT) (l:LINT) (d:Int) (hr:l.2.2.1=false):evC cp s0 c a l d false=bif (finS c l d).2 then cp++[(finS c l d).1] else cp:=by unfold evC;rw[hr];rfl
theorem itN (y:ITMT) (n:Int) (h:y.2.2.2.1=n) (h1:0<=n) (h2:n<=100):wrap .i64 (y.2.2.2.1+1)=n+1:=by rw[h,wrap_i64 _ (by omega) (by omega)]
theorem ZPX (h:Sem s0 c ev cp it) (l:LINT) (d:Int) (cell:Cell) (hr:l.2.2.1=false):
  Sem s0 (Zl c l d) (evE ev c l d cell false) (evC cp s0 c (Zl c l d) l d false) (ZbQ it c (Zp c (Zq c) d) (Zq c)):=by
 rw[ZR7 _ _ _ _ _ hr,ZR8 _ _ _ _ _ _ hr];obtain⟨hcp,un,nx,rest,nine,cy,hit,ln,pt,ps⟩:=h;obtain⟨p0,s,g,x,n,hd⟩:=c;simp only at un nx rest nine cy hit ln pt ps;have hst:Zq (p0,s,g,x,n,hd)=n:=by
  have h1:(decide (n<1)||decide (n>9))=false:=by simp;omega
  simp only[Zq,Zy0,RT.val,h1,Yc]
 have hsx:Z2 n=n:=by
  have h1:(decide (n<1)||decide (n>9))=false:=by simp;omega
  simp only[Z2,h1,Yc]
 have hup:=Zvf p0 l;have hchip:(Ze p0 l).1=p0.1:=(Zrz hup).1;have hun:unl (Ze p0 l)=unl (ZA (Zbw s0 ev) s):=hup.trans un;have hhl:(Ze p0 l).2.2.2.2.1=p0.2.2.2.2.1:=ZUo hup;have hnxt:∀g,Zm (Ze p0 l) s g=Zm p0 s g:=λg=>ZEx hup s g
 rw[hst];have hcases:n=1\/n=2\/n=3\/n=4\/n=5\/n=6\/n=7\/n=8\/n=9:=by omega
 have hnf:∀k:Int,n=k->ZpQ k x=false->(k==3)=false->(finS (p0,s,g,x,n,hd) l d).2=false:=λk hk he h3=>by
  unfold finS rdS;have:(n !=3)=true:=by rw[hk];simpa [bne] using h3
  simp only[hr,this,hk▸he,Ya,Yc,Ym]
 have sem456:∀k:Int,(k=4\/k=5\/k=6)->n=k->Sem s0 (Zl (p0,s,g,x,n,hd) l d) (bif (finS (p0,s,g,x,n,hd) l d).2 then ev++[ZjT (Zmg s,s,ZeW (p0,s,g,x,n,hd) n d,Zh2,false,false,false,false,0,0) (Ze p0 l) l] else ev)
   (bif (finS (p0,s,g,x,n,hd) l d).2 then cp++[(finS (p0,s,g,x,n,hd) l d).1] else cp) (ZbQ it (p0,s,g,x,n,hd) (Zp (p0,s,g,x,n,hd) n d) n):=by
  intro k hk e;subst e;obtain⟨l',y,rfl,y1,yN,yc⟩:=ps (by rcases hk with rfl|rfl|rfl<;>decide) (by rcases hk with rfl|rfl|rfl<;>decide);clear pt ps;have b1:(n==1)=false:=by rcases hk with rfl|rfl|rfl<;>rfl
  have b2:(n==2)=false:=by rcases hk with rfl|rfl|rfl<;>rfl
  have b3:(n==3)=false:=by rcases hk with rfl|rfl|rfl<;>rfl
  have b7:(n==7)=false:=by rcases hk with rfl|rfl|rfl<;>rfl
  have b8:(n==8)=false:=by rcases hk with rfl|rfl|rfl<;>rfl
  have b9:(n==9)=false:=by rcases hk with rfl|rfl|rfl<;>rfl
  have b10:(n==10)=false:=by rcases hk with rfl|rfl|rfl<;>rfl
  have b3':(n !=3)=true:=by rcases hk with rfl|rfl|rfl<;>rfl
  have hi:ZbQ (l'++[y]) (p0,s,g,x,n,hd) (Zp (p0,s,g,x,n,hd) n d) n=l'++[(y.1,x,y.2.2.1,n,y.2.2.2.2)]:=by
   rw[Zlh _ _ _ b3];have hkn:Zo0 n=1:=by unfold Zo0;simp only[b8,b9,b10,Yc]
   have hcn:cycN (p0,s,g,x,n,hd) n x=x:=by unfold cycN;simp only[b8,b9,b10,Yc]
   unfold ZbQ;simp only[hkn,hcn,b1,b7];show Zbl (l'++[y]) _=_;rw[Z4,itN y (n-1) yN (by omega) (by omega)];simp
  rw[hi];have hit':cyI (l'++[(y.1,x,y.2.2.1,n,y.2.2.2.2)])=cyA s0 ev++cyX (ZA (Zbw s0 ev) s) s [] g:=by rw[<-hit,Ze8,Ze8];have q1:decide (n>=3)=true:=Yz (by omega);have q2:decide (y.2.2.2.1>=3)=true:=Yz (by omega);simp only[y1,q1,q2,yc]
  have hno:s=0->(Ze p0 l).2.2.2.2.1=true->False:=λa b=>by have:=rest a (by rw[<-hhl];exact b);omega
  have hby:ZeW (p0,s,g,x,n,hd) n d=g:=by unfold ZeW;simp only[b3,Yc]
  have hrd:rdS (p0,s,g,x,n,hd) n d=(x,g):=by unfold rdS;simp only[b3',Ya]
  have hen:ZpQ n x= !(decide (n<x.2.2.2)&& !(n==6)):=by
   unfold ZpQ ZS3;rcases hk with rfl|rfl|rfl
   ·by_cases q:(4:Int)<x.2.2.2
    ·have q1:decide (x.2.2.2<=4)=false:=YR (by omega);have q2:decide ((4:Int)<x.2.2.2)=true:=Yz q;simp only[RT.val,q2];exact q1
    ·have q1:decide (x.2.2.2<=4)=true:=Yz (by omega);have q2:decide ((4:Int)<x.2.2.2)=false:=YR q;simp only[RT.val,q2];exact q1
   ·by_cases q:(5:Int)<x.2.2.2
    ·have q1:decide (x.2.2.2<=5)=false:=YR (by omega);have q2:decide ((5:Int)<x.2.2.2)=true:=Yz q;simp only[RT.val,q2];exact q1
    ·have q1:decide (x.2.2.2<=5)=true:=Yz (by omega);have q2:decide ((5:Int)<x.2.2.2)=false:=YR q;simp only[RT.val,q2];exact q1
   ·cases decide ((6:Int)<x.2.2.2)<;>rfl
  have hclk:Zl (p0,s,g,x,n,hd) l d=bif decide (n<x.2.2.2)&& !(n==6) then (Ze p0 l,s,g,x,n+1,hd) else endX (Ze p0 l) s g hd l:=by unfold Zl;simp only[hr,hsx,b1,b2,b3,b7,b8,b9,YaS,Yc]
  cases hle:decide (n<x.2.2.2)&& !(n==6)
  ·have hck:Zl (p0,s,g,x,n,hd) l d=endX (Ze p0 l) s g hd l:=by rw[hclk,hle];rfl
   have hf:finS (p0,s,g,x,n,hd) l d=bif (Zm (Ze p0 l) s g).2 then (Zma,false) else (finX (Ze p0 l) s g l,true):=by unfold finS;simp only[hr,hrd,hen,hle,Ya,Yc,Yh,Ym]
   have:=ZJu (Ze p0 l) s g hd l hcp hun hno hit' ln;rw[hck,hf,hby];cases hn:(Zm (Ze p0 l) s g).2
   ·rw[hn] at this;exact this
   ·rw[hn] at this;exact this
  ·have hf:(finS (p0,s,g,x,n,hd) l d).2=false:=by unfold finS;simp only[hr,hrd,hen,hle,Ya,Yc,Yh,Ym]
   have hck:Zl (p0,s,g,x,n,hd) l d=(Ze p0 l,s,g,x,n+1,hd):=by rw[hclk,hle];rfl
   have h6:n≠6:=by simp at hle;exact hle.2
   rw[hck,hf];refine⟨hcp,hun,by show 1<=n+1/\n+1<=9;omega,λa b=>(hno a b).elim,λe=>by replace e:n+1=9:=e;omega,λe=>by replace e:n+1<4\/6<n+1:=e;omega,hit',ln,λe=>by replace e:n+1=2\/n+1=3\/n+1=7:=e;omega,λ_ _=>⟨l',_,rfl,y1,?_,rfl⟩⟩;show n=n+1-1;omega
 rcases hcases with e|e|e|e|e|e|e|e|e
 ·--T1
  subst e;rw[hnf 1 rfl rfl rfl];have hck:Zl (p0,s,g,x,1,hd) l d=(Ze p0 l,s,g,x,2,hd):=by unfold Zl;simp only[hr,hsx];rfl
  rw[hck,Zlh _ _ _ rfl];refine⟨hcp,hun,⟨(by decide:(1:Int)<=2),(by decide:(2:Int)<=9)⟩,λa b=> ?_,λe=>by simp at e,λ_=>by rw[hnxt];exact cy (by omega),?_,ln,λ_=>⟨it,_,rfl,rfl,rfl⟩,λe=>by simp at e⟩
  ·have:=rest a (by rw[<-hhl];exact b);omega
  ·show cyI (it++[_])=_;rw[Ze8];show cyI it++[]=_;rw[YG];exact hit
 ·--T2
  subst e;rw[hnf 2 rfl rfl rfl];obtain⟨l',y,rfl,y1,yN⟩:=pt (.inl rfl);have hi:ZbQ (l'++[y]) (p0,s,g,x,2,hd) (Zp (p0,s,g,x,2,hd) 2 d) 2=l'++[(y.1,x,y.2.2.1,2,y.2.2.2.2)]:=by rw[Zlh _ _ _ rfl];show Zbl (l'++[y]) _=_;rw[Z4,itN y 1 yN (by decide) (by decide)];rfl
  have hcy:cyI (l'++[(y.1,x,y.2.2.1,2,y.2.2.2.2)])=cyI (l'++[y]):=by rw[Ze8,Ze8];have:y.2.2.2.1=1:=yN;rw[this,y1];rfl
  rw[hi];have hno:s=0->p0.2.2.2.2.1=true->False:=λa b=>by have:=rest a b;omega
  have hck:Zl (p0,s,g,x,2,hd) l d=(Ze p0 l,s,g,x,bif l.1|| !Zg x.1 then 3 else 7,bif l.1|| !Zg x.1 then l.2.1 else hd):=by unfold Zl;simp only[hr,hsx];show (bif l.1|| !Zg x.1 then _ else _)=_;cases l.1|| !Zg x.1<;>rfl
  rw[hck];have hk:(bif l.1|| !Zg x.1 then (3:Int) else 7)=3\/(bif l.1|| !Zg x.1 then (3:Int) else 7)=7:=by cases l.1|| !Zg x.1<;>simp
  generalize (bif l.1|| !Zg x.1 then (3:Int) else 7)=k at hk;refine⟨hcp,hun,by show 1<=k/\k<=9;omega,λa b=>(hno a (by rw[<-hhl];exact b)).elim,λe=>by replace e:k=9:=e;omega,λ_=>by rw[hnxt];exact cy (by omega),by rw[hcy];exact hit,ln,λ_=>⟨l',_,rfl,y1,?_⟩,λe1 e2=>by replace e1:4<=k:=e1;replace e2:k<=6:=e2;omega⟩;show (2:Int)=bif k==2 then 1 else 2
  rcases hk with rfl|rfl<;>rfl
 ·--T3
  subst e;obtain⟨l',y,rfl,y1,yN⟩:=pt (.inr (.inl rfl));obtain⟨cy1,cy2⟩:=cy (by omega);generalize hx3:ZaE (Ze p0 l) x d=x3;have hx3':ZaE p0 x d=x3:=by rw[<-ZvQ hchip];exact hx3
  have hcur:Zp (p0,s,g,x,3,hd) 3 d=x3:=by rw[ZZj _ _ (Ze p0 l) hchip];exact hx3
  have hi:ZbQ (l'++[y]) (p0,s,g,x,3,hd) (Zp (p0,s,g,x,3,hd) 3 d) 3=l'++[(y.1,x3,y.2.2.1,3,y.2.2.2.2)]:=by rw[hcur];show Zbl (l'++[y]) _=_;rw[Z4,itN y 2 yN (by decide) (by decide)];rfl
  rw[hi];have hac:=Zu0 (Zbw s0 ev) s;have hna:∀g,Zm (ZA (Zbw s0 ev) s) s g=Zm p0 s g:=λg=>(ZEx un s g).symm
  obtain⟨k1,k2⟩:=ZOT (ZA (Zbw s0 ev) s) s g [] x3.2.2.1 ln (by rw[List.nil_append,hna];exact cy2);rw[List.nil_append,hna,<-cy1,<-hx3',ZF7 p0 (ZA (Zbw s0 ev) s) (Zrz un).1.symm,hx3'] at k1;have hit':cyI (l'++[(y.1,x3,y.2.2.1,3,y.2.2.2.2)])=cyA s0 ev++cyX (ZA (Zbw s0 ev) s) s [] (g++[x3.2.2.1]):=by rw[k1,<-List.append_assoc,<-hit,Ze8,Ze8];have:y.2.2.2.1=2:=yN;rw[this,y1];show cyI l'++[x3]=cyI l'++[]++[x3];rw[YG]
  have hno:s=0->(Ze p0 l).2.2.2.2.1=true->False:=λa b=>by have:=rest a (by rw[<-hhl];exact b);omega
  have hby:ZeW (p0,s,g,x,3,hd) 3 d=g++[x3.2.2.1]:=by unfold ZeW;rw[hcur];rfl
  have hrd:rdS (p0,s,g,x,3,hd) 3 d=(x3,g++[x3.2.2.1]):=by show (ZaE p0 x d,g++[(ZaE p0 x d).2.2.1])=_;rw[hx3']
  have hen:ZpQ 3 x3=le3 x3.2.2.2:=rfl;cases hle:le3 x3.2.2.2
  ·have hf:(finS (p0,s,g,x,3,hd) l d).2=false:=by unfold finS;simp only[hr,hrd,hen,hle,Ya,Yc,Ym]
   have hck:Zl (p0,s,g,x,3,hd) l d=(Ze p0 l,s,g++[x3.2.2.1],x3,4,hd):=by unfold Zl;simp only[hr,hsx,hx3,hle];rfl
   rw[hck,hf];exact⟨hcp,hun,⟨(by decide:(1:Int)<=4),(by decide:(4:Int)<=9)⟩,λa b=>(hno a b).elim,λe=>by simp at e,λe=>by simp at e,hit',k2,λe=>by simp at e,λ_ _=>⟨l',_,rfl,y1,rfl,rfl⟩⟩
  ·have hck:Zl (p0,s,g,x,3,hd) l d=endX (Ze p0 l) s (g++[x3.2.2.1]) hd l:=by unfold Zl;simp only[hr,hsx,hx3,hle];rfl
   have hf:finS (p0,s,g,x,3,hd) l d=bif (Zm (Ze p0 l) s (g++[x3.2.2.1])).2 then (Zma,false) else (finX (Ze p0 l) s (g++[x3.2.2.1]) l,true):=by unfold finS;simp only[hr,hrd,hen,hle,Ya,Yc,Yh]
   have:=ZJu (Ze p0 l) s (g++[x3.2.2.1]) hd l hcp hun hno hit' k2;rw[hck,hf,hby];cases hn:(Zm (Ze p0 l) s (g++[x3.2.2.1])).2
   ·rw[hn] at this;exact this
   ·rw[hn] at this;exact this
 ·exact sem456 4 (.inl rfl) e
 ·exact sem456 5 (.inr (.inl rfl)) e
 ·exact sem456 6 (.inr (.inr rfl)) e
 ·--TWait
  subst e;rw[hnf 7 rfl rfl rfl];obtain⟨l',y,rfl,y1,yN⟩:=pt (.inr (.inr rfl));have hi:ZbQ (l'++[y]) (p0,s,g,x,7,hd) (Zp (p0,s,g,x,7,hd) 7 d) 7=l'++[(y.1,x,wrap .i64 (y.2.2.1+1),y.2.2.2)]:=by rw[Zlh _ _ _ rfl];show Zbl (l'++[y]) _=_;rw[Z4];rfl
  have hcy:cyI (l'++[(y.1,x,wrap .i64 (y.2.2.1+1),y.2.2.2)])=cyI (l'++[y]):=by rw[Ze8,Ze8];have:y.2.2.2.1=2:=yN;rw[this,y1];rfl
  rw[hi];have hno:s=0->p0.2.2.2.2.1=true->False:=λa b=>by have:=rest a b;omega
  have hck:Zl (p0,s,g,x,7,hd) l d=(Ze p0 l,s,g,x,bif l.1|| !Zg x.1 then 3 else 7,bif l.1|| !Zg x.1 then l.2.1 else hd):=by unfold Zl;simp only[hr,hsx];show (bif l.1|| !Zg x.1 then _ else _)=_;cases l.1|| !Zg x.1<;>rfl
  rw[hck];have hk:(bif l.1|| !Zg x.1 then (3:Int) else 7)=3\/(bif l.1|| !Zg x.1 then (3:Int) else 7)=7:=by cases l.1|| !Zg x.1<;>simp
  generalize (bif l.1|| !Zg x.1 then (3:Int) else 7)=k at hk;refine⟨hcp,hun,by show 1<=k/\k<=9;omega,λa b=>(hno a (by rw[<-hhl];exact b)).elim,λe=>by replace e:k=9:=e;omega,λ_=>by rw[hnxt];exact cy (by omega),by rw[hcy];exact hit,ln,λ_=>⟨l',_,rfl,y1,?_⟩,λe1 e2=>by replace e1:4<=k:=e1;replace e2:k<=6:=e2;omega⟩;show y.2.2.2.1=bif k==2 then 1 else 2
  rw[show y.2.2.2.1=2 from yN];rcases hk with rfl|rfl<;>rfl
 ·--THold
  subst e;rw[hnf 8 rfl rfl rfl];have hck:Zl (p0,s,g,x,8,hd) l d=(Ze p0 l,s,g,x,idlX (Ze p0 l) s l.2.1,hd):=by unfold Zl;simp only[hr,hsx];rfl
  have hcy:cyI (ZbQ it (p0,s,g,x,8,hd) (Zp (p0,s,g,x,8,hd) 8 d) 8)=cyI it:=Zpu (by decide) rfl;rw[hck];obtain⟨i1,i2,i3⟩:=Zfu (Ze p0 l) s l.2.1;generalize idlX (Ze p0 l) s l.2.1=k at i1 i2 i3;refine⟨hcp,hun,by show 1<=k/\k<=9;omega,λa b=>⟨i3 a b,(rest a (by rw[<-hhl];exact b)).2⟩,i2,λ_=>by rw[hnxt];exact cy (by omega),by rw[hcy];exact hit,ln,λe=>by replace e:k=2\/k=3\/k=7:=e;omega,λe1 e2=>by replace e1:4<=k:=e1;replace e2:k<=6:=e2;omega⟩
 ·--THalt
  subst e;rw[hnf 9 rfl rfl rfl];obtain⟨z1,z2⟩:=nine rfl;obtain⟨_,z3⟩:=rest z1 z2;subst z1;subst z3;have hcy:cyI (ZbQ it (p0,0,[],x,9,hd) (Zp (p0,0,[],x,9,hd) 9 d) 9)=cyI it:=Zpu (by decide) rfl;have hck:Zl (p0,0,[],x,9,hd) l d=bif ZbP (Ze p0 l) l==0 then (Ze p0 l,0,[],x,bif l.2.1 then 8 else 9,hd) else (ZA (Ze p0 l) (ZbP (Ze p0 l) l),ZbP (Ze p0 l) l,[],(Zm (ZA (Ze p0 l) (ZbP (Ze p0 l) l)) (ZbP (Ze p0 l) l) []).1,bif l.2.1 then 8 else 1,hd):=by unfold Zl;simp only[hr,hsx];rfl
  rw[hck];generalize ZbP (Ze p0 l) l=k;cases hk:k==0
  ·simp only[Yc];have hk0:k≠0:=by simpa using hk
   have hn:(bif l.2.1 then (8:Int) else 1)=8\/(bif l.2.1 then (8:Int) else 1)=1:=by cases l.2.1<;>simp
   generalize (bif l.2.1 then (8:Int) else 1)=n at hn;refine⟨hcp,ZUp (hun.trans (by rw[ZSF])) k,by show 1<=n/\n<=9;omega,λa _=>(hk0 a).elim,λe=>by replace e:n=9:=e;omega,λ_=>⟨rfl,ZlT _ _⟩,by rw[hcy];exact hit,rfl,λe=>by replace e:n=2\/n=3\/n=7:=e;omega,λe1 e2=>by replace e1:4<=n:=e1;replace e2:n<=6:=e2;omega⟩
  ·simp only[Ya];have hn:(bif l.2.1 then (8:Int) else 9)=8\/(bif l.2.1 then (8:Int) else 9)=9:=by cases l.2.1<;>simp
   generalize (bif l.2.1 then (8:Int) else 9)=n at hn;refine⟨hcp,hun,by show 1<=n/\n<=9;omega,λa _=>⟨hn,rfl⟩,λ_=>⟨rfl,by rw[<-hhl] at z2;exact z2⟩,λ_=>by rw[hnxt];exact cy (by omega),by rw[hcy];exact hit,rfl,λe=>by replace e:n=2\/n=3\/n=7:=e;omega,λe1 e2=>by replace e1:4<=n:=e1;replace e2:n<=6:=e2;omega⟩
theorem ZY6 (k t:Int) (x:TY) (d:Int) (i o:Bool):ZhJ (ZaZ k t x d i o)=(t==8):=by
 unfold ZaZ ZhR ZhJ;simp only[RT.val];cases h8:t==8
 ·cases t==9
  ·cases t==10
   ·cases rOn k<;>rfl
   ·rfl
  ·rfl
 ·rfl
theorem Zi4 {l:LINT} {d:Int} (h:ZhJ (ZbN c l d)=true):l.2.2.1=false/\Z2 c.2.2.2.2.1=8:=by
 unfold ZbN at h;rw[ZY6] at h;cases hl:l.2.2.1
 ·rw[hl] at h;simp at h;exact⟨rfl,h⟩
 ·rw[hl] at h;simp at h
theorem ZJt (h:Sem s0 c ev cp it) (l:LINT) (d:Int) (cell:Cell) (moved:Bool) (hr:l.2.2.1=true) (x:TY):
  Sem s0 (Zl c l d) (evE ev c l d cell moved) (evC cp s0 c (Zl c l d) l d moved) (ZbQ it c x 10):=by
 have hck:Zl c l d=ZpB (ZY c.1) 0:=by unfold Zl;rw[hr];rfl
 have he:evE ev c l d cell moved=(bif Zgg c then ev++[ZjT (6,c.2.1,c.2.2.1,Zh2,false,false,false,false,0,0) c.1 l] else ev)++[ZjT (4,0,[],Zh2,false,false,false,false,0,0) c.1 l]:=by unfold evE;rw[hr];rfl
 have hc:evC cp s0 c (Zl c l d) l d moved=(bif Zgg c then cp++[Zlm s0 cp] else cp)++[ZY c.1]:=by unfold evC;rw[hr,hck];rfl
 rw[he,hc,hck];have hcyi:cyI (ZbQ it c x 10)=cyI it:=Zpu (by decide) rfl;obtain⟨ev',cp',hev,hcp',hl',hcy⟩:∃ev' cp',(bif Zgg c then ev++[ZjT (6,c.2.1,c.2.2.1,Zh2,false,false,false,false,0,0) c.1 l] else ev)=ev'/\(bif Zgg c then cp++[Zlm s0 cp] else cp)=cp'/\(cp'=ZvP s0 ev'/\Zbw s0 ev'=Zbw s0 ev)/\cyA s0 ev'=cyI it:=by
  cases hb:Zgg c
  ·refine⟨ev,cp,rfl,rfl,⟨h.hcp,rfl⟩,?_⟩;have hg:c.2.2.1=[]:=by
    unfold Zgg ZS5 at hb;simp only[RT.val] at hb;have hx:(decide (iN (List.length c.2.2.1)>0)||c.2.1 !=0)=false:=by
     cases hq:(decide (iN (List.length c.2.2.1)>0)||c.2.1 !=0)
     ·rfl
     ·rw[hq] at hb;cases h2:decide (c.2.2.2.2.1>=2)<;>rw[h2] at hb<;>simp at hb
    rw[Yq] at hx;have:=hx.1;simp only[iN,Le,Y5] at this;exact Y2.1 (by omega)
   have:=h.hit;rw[hg] at this;rw[this];show _=_++[];rw[YG]
  ·generalize hcut:ZjT (6,c.2.1,c.2.2.1,Zh2,false,false,false,false,0,0) c.1 l=e;have e1:e.1=6:=by rw[<-hcut,Zcz]
   have e2:e.2.1=c.2.1:=by rw[<-hcut,Zcz]
   have e3:e.2.2.1=c.2.2.1:=by rw[<-hcut,Zcz]
   have ha:ZdT (Zbw s0 ev) e=Zbw s0 ev:=by unfold ZdT Zx1;rw[e1];rfl
   refine⟨_,_,rfl,rfl,⟨?_,by simp only[Ya];rw[ZgS,ha]⟩,?_⟩
   ·simp only[Ya];rw[h.hcp,Zfj,Zq3,ha]
   ·simp only[Ya];rw[Zpv,h.hit];unfold Zg3 cycE Zx1;rw[e1,e2,e3];rfl
 rw[hev,hcp'];generalize hrs:ZjT (4,0,[],Zh2,false,false,false,false,0,0) c.1 l=e;have e1:e.1=4:=by rw[<-hrs,Zcz]
 have hreg:=Zrz h.un;have hac:=Zu0 (Zbw s0 ev) c.2.1;have ha:ZdT (Zbw s0 ev') e=ZY c.1:=by
  have:ZdT (Zbw s0 ev') e=ZY (Zbw s0 ev'):=by unfold ZdT Zx1;rw[e1];rfl
  rw[this,hl'.2];exact ZJK (by rw[hreg.1,hac.1]) (by rw[hreg.2,hac.2])
 have hc0:Zg3 (Zbw s0 ev') e=[]:=by unfold Zg3 cycE Zx1;rw[e1];rfl
 have hl:Zbw s0 (ev'++[e])=ZY c.1:=by rw[ZgS,ha]
 refine⟨by rw[hl'.1,Zfj,ha],by rw[hl];rfl,⟨(by decide:(1:Int)<=1),(by decide:(1:Int)<=9)⟩,λ_ b=> ?_,λe=> ?_,λ_=>⟨rfl,ZlT _ _⟩,?_,rfl,λe=> ?_,λe _=> ?_⟩
 ·have:(ZY c.1).2.2.2.2.1=false:=rfl;replace b:(ZY c.1).2.2.2.2.1=true:=b;rw[this] at b;simp at b
 ·replace e:(1:Int)=9:=e;omega
 ·rw[hcyi,Zpv,hc0,hcy,hl];show _=_++[]++[];rw[YG,YG]
 ·replace e:(1:Int)=2\/(1:Int)=3\/(1:Int)=7:=e;omega
 ·replace e:(4:Int)<=1:=e;omega
theorem ZJs (b:BRDT) (s0:TC) (st:STT) (i:INPT) (h:Sem s0 st.1.1 st.2.2.2.1 st.2.2.2.2 st.2.2.1):Sem s0 (ZcL b s0 st i).1.1 (ZcL b s0 st i).2.2.2.1 (ZcL b s0 st i).2.2.2.2 (ZcL b s0 st i).2.2.1:=by
 have hcore:(Zah b st.1 i).1.1=Zl st.1.1 (Zbr b (Zt b st.1 i) i) (busS b (Zt b st.1 i) i).2:=ZhF b st.1 i;show Sem s0 (Zah b st.1 i).1.1 (evE st.2.2.2.1 st.1.1 (Zbr b (Zt b st.1 i) i) (busS b (Zt b st.1 i) i).2 (Zah b st.1 i).2.2.2.2.1 (ZcV b st.1 i)) (evC st.2.2.2.2 s0 st.1.1 (Zah b st.1 i).1.1 (Zbr b (Zt b st.1 i) i) (busS b (Zt b st.1 i) i).2 (ZcV b st.1 i))
  (ZbQ st.2.2.1 st.1.1 (Zp st.1.1 (nowS st.1 i) (busS b (Zt b st.1 i) i).2) (nowS st.1 i))
 rw[hcore];have hl2:(Zbr b (Zt b st.1 i) i).2.2.1=i.2.2.1:=rfl;generalize hL:Zbr b (Zt b st.1 i) i=l at hl2|-;generalize hD:(busS b (Zt b st.1 i) i).2=d;cases hr:i.2.2.1
 ·have hnow:nowS st.1 i=Zq st.1.1:=by unfold nowS;rw[hr];rfl
  rw[hnow];rw[hr] at hl2;have hcalm:=ZPX h l d (Zah b st.1 i).2.2.2.2.1 hl2;cases hm:ZcV b st.1 i
  ·exact hcalm
  ·--a byte is moved:in a hold state
   have h8:Z2 st.1.1.2.2.2.2.1=8:=by unfold ZcV at hm;rw[Yb] at hm;have hp:=hm.1;unfold pinS at hp;rw[hL,hD,(ZhG b (Zt b st.1 i) i).1] at hp;exact (Zi4 hp).2
   have hf:(finS st.1.1 l d).2=false:=by
    have h8':st.1.1.2.2.2.2.1=8:=by
     have:=h.nx;have h1:(decide (st.1.1.2.2.2.2.1<1)||decide (st.1.1.2.2.2.2.1>9))=false:=by simp;omega
     simp only[Z2,h1,Yc] at h8;exact h8
    unfold finS rdS;rw[hl2,h8'];rfl
   have e1:evE st.2.2.2.1 st.1.1 l d (Zah b st.1 i).2.2.2.2.1 true=st.2.2.2.1++[(5,0,[],Zh2,false,false,false,false,(Zah b st.1 i).2.2.2.2.1)]:=by unfold evE;rw[hl2,hf];rfl
   have e2:evE st.2.2.2.1 st.1.1 l d (Zah b st.1 i).2.2.2.2.1 false=st.2.2.2.1:=by unfold evE;rw[hl2,hf];rfl
   have e3:evC st.2.2.2.2 s0 st.1.1 (Zl st.1.1 l d) l d true=st.2.2.2.2++[Zlm s0 st.2.2.2.2]:=by unfold evC;rw[hl2,hf];rfl
   have e4:evC st.2.2.2.2 s0 st.1.1 (Zl st.1.1 l d) l d false=st.2.2.2.2:=by unfold evC;rw[hl2,hf];rfl
   rw[e1,e3];rw[e2,e4] at hcalm;exact ZPW hcalm _ rfl rfl
 ·have hnow:nowS st.1 i=10:=by unfold nowS;rw[hr];rfl
  rw[hnow];exact ZJt h l d _ _ (by rw[hl2,hr]) _
theorem ZMX (b:BRDT) (hg:smG b.2.1=true) (hm:b.2.2.2.2.2.2.length<=100000) (hx:((wNew b).2 !=0)=false):wNew b=(newS b,0):=by
 have hv:(ZFv b).val=some (bif Zci b !=0 then (Zrp,Zci b) else ((newS b),0)):=by unfold ZFv;have hc:=smCb (l:=b.2.2.2.2.2.2) (by omega);simp only[RT.val,Zme b hg hc,hc,Ya];cases Zci b !=0<;>rfl
 have hx':(Zci b !=0)=false:=by
  cases hq:Zci b !=0
  ·rfl
  ·exfalso;simp only[wNew,hv,getO,hq,Ya] at hx;simp at hx
 simp only[wNew,hv,getO,hx',Yc]
theorem ZRQ (b:BRDT) (hw:wNew b=(newS b,0)):ZaO b=ZNG b/\Sem (ZaO b) (Zck b).1.1 (Zck b).2.2.2.1 (Zck b).2.2.2.2 (Zck b).2.2.1:=by
 have hs:ZaO b=ZNG b:=by unfold ZaO;rw[hw];rfl
 refine⟨hs,?_⟩;have e:(Zck b).1.1=(ZaO b,0,[],(1,0,0,4),1,false):=by unfold Zck ZaO;rw[hw];rfl
 rw[e];refine⟨rfl,rfl,⟨(by decide:(1:Int)<=1),(by decide:(1:Int)<=9)⟩,λ_ q=> ?_,λe=> ?_,λ_=>⟨?_,ZlT _ _⟩,rfl,rfl,λe=> ?_,λe _=> ?_⟩
 ·have:(ZaO b).2.2.2.2.1=false:=by rw[hs];rfl
  replace q:(ZaO b).2.2.2.2.1=true:=q;rw[this] at q;simp at q
 ·replace e:(1:Int)=9:=e;omega
 ·have:ZaO b=ZNG b:=hs;show ((1,0,0,4):TY)=(Zm (ZaO b) 0 []).1;rw[this];rfl
 ·replace e:(1:Int)=2\/(1:Int)=3\/(1:Int)=7:=e;omega
 ·replace e:(4:Int)<=1:=e;omega
def ZBQ (n:Int) (low:Int) (high:Int):RT (Int):=
 .Lf (if (if high<n then high else n)>low then if high<n then high else n else low)
def gLim (n:Int) (low:Int) (high:Int):Int:=(ZBQ n low high).val
def ZHL (x:ITMT):RT (Int×Int):=
 .br (x.1==2) (.Lf ((8,gLim x.2.2.2.1 0 65536))) (.br (x.1==3) (.Lf ((9,gLim x.2.2.2.1 0 65536))) (.br (x.1==4) (.Lf ((10,gLim x.2.2.2.1 0 65536))) (.Lf ((0,0)))))
def gRep (x:ITMT):Int×Int:=(ZHL x).val
abbrev ZmU:List Sh:=[So (R.sl ZcS),So (R.sl ZcS)]
def ZvU:LS:={n:=26,Sl:=[(0,.code (So (R.sl ZcS))),(1,.code (So (R.sl ZcS))),(4,.code (So R.bool)),(12,.code (So Kc)),(13,.code (So Kc))],Bx:=[],Sg:=[]}
def Zdv (a:List PINT×List PINT×Bool×Int×Int×PUnit):RT (Option (Go1 (List PINT×List PINT×Bool×Int×Int×PUnit))):=
 let x1:= !Zh a.2.2.2.2.1 (Le a.1)||Zh a.2.2.2.2.1 (Le a.2.1)
 let x34:Int×Int×PUnit:=(a.2.2.2.1,a.2.2.2.2.1,PUnit.unit)
 .br (decide (a.2.2.2.2.1<a.2.2.2.1)) (.br (!x1||Zh a.2.2.2.2.1 (Le a.1)) (.br (x1) (.br (!(R.eqf ZcS (R.get ZcS a.1 a.2.2.2.2.1:PINT) (R.get ZcS a.2.1 a.2.2.2.2.1:PINT) true)) (Ls (Go1.ret (a.1,a.2.1,false,x34))) (Ls (Go1.cont (a.1,a.2.1,a.2.2.1,a.2.2.2.1,i64.wrap (a.2.2.2.2.1+1),PUnit.unit)))) Ln) Ln) (Ls (Go1.brk (a.1,a.2.1,a.2.2.1,x34)))
def Zk0:Ora:=Zbq true ZvU Zdv (λa=>1000000000000)
theorem ZpP:Za1 (envX Tryz.prog [] [] 63 8) (.block 0 (.loop (Z5 Tryz.f10.body 0))) Zk0:=
 loopP trivial
def Zfl (a:List PINT) (b:List PINT):RT (Option (Bool)):=
 let x1:=runF true Zdv (λa_1=>1000000000000) (a,b,false,iN (Le a),0,())
 let x2:=getO (false,a,b,false,iN (Le a),0,()) x1
 .br (iN (Le a) !=iN (Le b)) (Ls (false)) (.br (okB x1) (.br x2.1 (Ls x2.2.2.2.1) (Ls (true))) Ln)
def ZiO (a:List PINT) (b:List PINT):Bool:=getO ZnA.Df (Zfl a b).val
def Zhn (a:List PINT) (b:List PINT):Bool:=okB (Zfl a b).val
def Zqt:En:=Zf ZmU ZnA (λa=>some (Zhn a.1 a.2)) (λa=>ZiO a.1 a.2)
theorem ZvT:Za Tryz.prog 10 Zqt:=
 pureP 63 [] [(0,Zk0)] _ _ trivial Tryz.func10 Tryz.call10 ⟨ZpP,Tv⟩
theorem ZKY (c:TC) (l:LINT):0<=ZbP c l/\ZbP c l<=5:=by
 have hv:∃k,(ZDd c l).val=k/\(0:Int)<=k/\k<=5:=by
  simp only[ZDd,RT.val,Bool.cond_eq_ite];repeat' split
  all_goals exact⟨_,rfl,by omega,by omega⟩
 obtain⟨k,hk,h0,h1⟩:=hv;simp only[ZbP,hk];exact⟨h0,h1⟩
def ZH7 (c:CORT):Prop:=0<=c.2.1/\c.2.1<=5
theorem ZJl (p:TC) (s:Int) (g:List Int) (h:Bool) (l:LINT) (hs:0<=s/\s<=5):ZH7 (endX p s g h l):=by
 unfold endX;cases (Zm p s g).2
 ·exact ZKY _ _
 ·exact hs
theorem ZJm (c:CORT) (l:LINT) (d:Int) (hs:ZH7 c):ZH7 (Zl c l d):=by
 unfold Zl;dsimp only;cases l.2.2.1
 ·cases Z2 c.2.2.2.2.1==1
  ·cases Z2 c.2.2.2.2.1==2||Z2 c.2.2.2.2.1==7
   ·cases Z2 c.2.2.2.2.1==8
    ·cases Z2 c.2.2.2.2.1==9
     ·cases Z2 c.2.2.2.2.1==3
      ·cases decide (Z2 c.2.2.2.2.1<c.2.2.2.1.2.2.2)&& !(Z2 c.2.2.2.2.1==6)
       ·exact ZJl _ _ _ _ _ hs
       ·exact hs
      ·cases le3 (ZaE (Ze c.1 l) c.2.2.2.1 d).2.2.2
       ·exact hs
       ·exact ZJl _ _ _ _ _ hs
     ·cases ZbP (Ze c.1 l) l==0
      ·exact ZKY _ _
      ·exact hs
    ·exact hs
   ·cases l.1|| !Zg c.2.2.2.1.1<;>exact hs
  ·exact hs
 ·exact⟨Int.le_refl 0,(by decide:(0:Int)<=5)⟩
def kindP (s:Int):Int:=bif s==0 then 1 else bif s==5 then 2 else 3
theorem ZRH (h:ZH7 c):kindP c.2.1=Zmg c.2.1:=by
 have h:=h;unfold ZH7 at h;generalize c.2.1=s at h;have e:s=0\/s=1\/s=2\/s=3\/s=4\/s=5:=by omega
 rcases e with rfl|rfl|rfl|rfl|rfl|rfl<;>rfl
theorem ZJD (hn:1<=c.2.2.2.2.1/\c.2.2.2.2.1<=9):Z2 c.2.2.2.2.1=c.2.2.2.2.1:=by
 have h1:(decide (c.2.2.2.2.1<1)||decide (c.2.2.2.2.1>9))=false:=by simp;omega
 simp only[Z2,h1,Yc]
theorem Zq2 (p:TC) (l:LINT):(Ze p l).1=p.1:=by simp only[Ze,Zsh,RT.val];cases rOn p.1<;>rfl
theorem ZZk (c:CORT) (l:LINT) (d:Int) (hn:1<=c.2.2.2.2.1/\c.2.2.2.2.1<=9) (hr:l.2.2.1=false):
  (ZaB c l d).1=(finS c l d).2/\((finS c l d).2=true->(ZaB c l d).2.1=(finS c l d).1/\(ZaB c l d).2.2.1=ZeW c (Zq c) d)/\(ZaB c l d).2.2.2.1=Zp c (Zq c) d/\(ZaB c l d).2.2.2.2=Ze c.1 l:=by
 have hsx:=ZJD hn;have hst:Zq c=c.2.2.2.2.1:=hsx;rw[hst];obtain⟨p0,s,g,x,n,hd⟩:=c;simp only at hn hsx;have hchip:=Zq2 p0 l;have hne:∀k:Int,n=k->(k==3)=false->Zp (p0,s,g,x,n,hd) n d=x:=λk hk h3=>by simp only[Zp,Ziy,RT.val,hk,h3,Yc]
 have other:∀k:Int,n=k->(k==3)=false->(k==4||(k==5||k==6))=false->(∀y,ZpQ k y=false)->
   (ZaB (p0,s,g,x,n,hd) l d).1=(finS (p0,s,g,x,n,hd) l d).2/\((finS (p0,s,g,x,n,hd) l d).2=true->(ZaB (p0,s,g,x,n,hd) l d).2.1=(finS (p0,s,g,x,n,hd) l d).1/\(ZaB (p0,s,g,x,n,hd) l d).2.2.1=ZeW (p0,s,g,x,n,hd) n d)/\(ZaB (p0,s,g,x,n,hd) l d).2.2.2.1=Zp (p0,s,g,x,n,hd) n d/\(ZaB (p0,s,g,x,n,hd) l d).2.2.2.2=Ze p0 l:=by
  intro k hk h3 h4 he;subst hk;have hch:ZaB (p0,s,g,x,n,hd) l d=(false,cpu0,[],x,Ze p0 l):=by unfold ZaB;simp only[hsx,h3,h4,YZ,Yc]
  have hf:(finS (p0,s,g,x,n,hd) l d).2=false:=by unfold finS;simp only[hr,he,Ym,Ya,Yc]
  rw[hch,hf,hne n rfl h3];exact⟨rfl,λe=>by simp at e,rfl,rfl⟩
 have last:∀k:Int,n=k->(k==3)=false->(k==4||(k==5||k==6))=true->(∀y:TY,ZpQ k y= !(decide (k<y.2.2.2)&& !(k==6)))->
   (ZaB (p0,s,g,x,n,hd) l d).1=(finS (p0,s,g,x,n,hd) l d).2/\((finS (p0,s,g,x,n,hd) l d).2=true->(ZaB (p0,s,g,x,n,hd) l d).2.1=(finS (p0,s,g,x,n,hd) l d).1/\(ZaB (p0,s,g,x,n,hd) l d).2.2.1=ZeW (p0,s,g,x,n,hd) n d)/\(ZaB (p0,s,g,x,n,hd) l d).2.2.2.1=Zp (p0,s,g,x,n,hd) n d/\(ZaB (p0,s,g,x,n,hd) l d).2.2.2.2=Ze p0 l:=by
  intro k hk h3 h4 he;subst hk;have hb3:(n !=3)=true:=by rw[bne,h3];rfl
  have hch:ZaB (p0,s,g,x,n,hd) l d=bif !(decide (n<x.2.2.2)&& !(n==6))&& !(Zm (Ze p0 l) s g).2 then (true,finX (Ze p0 l) s g l,g,x,Ze p0 l) else (false,cpu0,[],x,Ze p0 l):=by unfold ZaB;simp only[hsx,h3,h4,YQ,Yc]
  have hf:finS (p0,s,g,x,n,hd) l d=bif decide (n<x.2.2.2)&& !(n==6) then (Zma,false) else bif (Zm (Ze p0 l) s g).2 then (Zma,false) else (finX (Ze p0 l) s g l,true):=by unfold finS rdS;simp only[hr,hb3,he,Bool.not_not,Ya,Yc]
  have hby:ZeW (p0,s,g,x,n,hd) n d=g:=by unfold ZeW;simp only[h3,Yc]
  rw[hch,hf,hne n rfl h3,hby];cases decide (n<x.2.2.2)&& !(n==6)
  ·cases (Zm (Ze p0 l) s g).2
   ·exact⟨rfl,λ_=>⟨rfl,rfl⟩,rfl,rfl⟩
   ·exact⟨rfl,λe=>by simp at e,rfl,rfl⟩
  ·exact⟨rfl,λe=>by simp at e,rfl,rfl⟩
 have hcases:n=1\/n=2\/n=3\/n=4\/n=5\/n=6\/n=7\/n=8\/n=9:=by omega
 have ends45:∀k:Int,k=4\/k=5->∀y:TY,ZpQ k y= !(decide (k<y.2.2.2)&& !(k==6)):=λk hk y=>by
  have h6:(!(k==6))=true:=by rcases hk with rfl|rfl<;>rfl
  rw[h6,YY];have e:ZpQ k y=decide (y.2.2.2<=k):=by rcases hk with rfl|rfl<;>rfl
  rw[e];by_cases q:k<y.2.2.2
  ·rw[Yz q,YR (by omega)];rfl
  ·rw[YR q,Yz (by omega)];rfl
 rcases hcases with e|e|e|e|e|e|e|e|e
 ·exact other 1 e rfl rfl λ_=>rfl
 ·exact other 2 e rfl rfl λ_=>rfl
 ·subst e;generalize hx3:ZaE (Ze p0 l) x d=x3;have hx3':ZaE p0 x d=x3:=by rw[<-hx3];unfold ZaE;rw[hchip]
  have hcur:Zp (p0,s,g,x,3,hd) 3 d=x3:=by rw[<-hx3'];rfl
  have hrd:rdS (p0,s,g,x,3,hd) 3 d=(x3,g++[x3.2.2.1]):=by show (ZaE p0 x d,g++[(ZaE p0 x d).2.2.1])=_;rw[hx3']
  have hen:ZpQ 3 x3=le3 x3.2.2.2:=rfl;have hby:ZeW (p0,s,g,x,3,hd) 3 d=g++[x3.2.2.1]:=by unfold ZeW;rw[hcur];rfl
  have hch:ZaB (p0,s,g,x,3,hd) l d=bif le3 x3.2.2.2&& !(Zm (Ze p0 l) s (g++[x3.2.2.1])).2 then (true,finX (Ze p0 l) s (g++[x3.2.2.1]) l,g++[x3.2.2.1],x3,Ze p0 l) else (false,cpu0,[],x3,Ze p0 l):=by unfold ZaB;simp only[hsx,hx3];rfl
  have hf:finS (p0,s,g,x,3,hd) l d=bif le3 x3.2.2.2 then (bif (Zm (Ze p0 l) s (g++[x3.2.2.1])).2 then (Zma,false) else (finX (Ze p0 l) s (g++[x3.2.2.1]) l,true)) else (Zma,false):=by unfold finS;simp only[hr,hrd,hen,Yc];cases le3 x3.2.2.2<;>rfl
  rw[hch,hf,hcur,hby];cases le3 x3.2.2.2
  ·exact⟨rfl,λe=>by simp at e,rfl,rfl⟩
  ·cases (Zm (Ze p0 l) s (g++[x3.2.2.1])).2
   ·exact⟨rfl,λ_=>⟨rfl,rfl⟩,rfl,rfl⟩
   ·exact⟨rfl,λe=>by simp at e,rfl,rfl⟩
 ·exact last 4 e rfl rfl (ends45 4 (.inl rfl))
 ·exact last 5 e rfl rfl (ends45 5 (.inr rfl))
 ·exact last 6 e rfl rfl λy=>by cases decide ((6:Int)<y.2.2.2)<;>rfl
 ·exact other 7 e rfl rfl λ_=>rfl
 ·exact other 8 e rfl rfl λ_=>rfl
 ·exact other 9 e rfl rfl λ_=>rfl
def Zw0 (n:Int):Int:=bif n==2 then 1 else bif n==3||n==7 then 2 else n-1
def Zyi (c:CORT) (it:List ITMT):Prop:=
 (1<=c.2.2.2.2.1/\c.2.2.2.2.1<=9)/\((c.2.2.2.2.1=8\/c.2.2.2.2.1=9\/c.2.2.2.2.1=1)\/∃l y,it=l++[y]/\y.2.1=c.2.2.2.1/\y.2.2.2.1=Zw0 c.2.2.2.2.1)
theorem ZN0 (c:TC) (s:Int) (h:Bool):idlX c s h=8\/idlX c s h=9\/idlX c s h=1:=by
 unfold idlX;cases h
 ·cases c.2.2.2.2.1&&s==0
  ·exact .inr (.inr rfl)
  ·exact .inr (.inl rfl)
 ·exact .inl rfl
theorem Zjr (it:List ITMT) (h:c.2.2.2.2.1=8\/c.2.2.2.2.1=9\/c.2.2.2.2.1=1):Zyi c it:=⟨by omega,.inl h⟩
theorem Zxr (p:TC) (s:Int) (g:List Int) (h:Bool) (l:LINT) (it:List ITMT):Zyi (endX p s g h l) it:=by
 apply Zjr;unfold endX;cases (Zm p s g).2
 ·exact ZN0 _ _ _
 ·exact ZN0 _ _ _
theorem ZNy (h:Zyi c it) (l:LINT) (d:Int) (hr:l.2.2.1=false):Zyi (Zl c l d) (ZbQ it c (Zp c (Zq c) d) (Zq c)):=by
 obtain⟨hn,h⟩:=h;have hsx:=ZJD hn;have hst:Zq c=c.2.2.2.2.1:=hsx;rw[hst];obtain⟨p0,s,g,x,n,hd⟩:=c;simp only at hn hsx h;have get:∀k:Int,n=k->(k==8)=false->(k==9)=false->(k==1)=false->∃l y,it=l++[y]/\y.2.1=x/\y.2.2.2.1=Zw0 k:=λk hk h8 h9 h1=>by
  subst hk;rcases h with (h|h|h)|h
  ·rw[h] at h8;simp at h8
  ·rw[h] at h9;simp at h9
  ·rw[h] at h1;simp at h1
  ·exact h
 have more:∀k:Int,n=k->(k=4\/k=5\/k=6)->Zyi (Zl (p0,s,g,x,n,hd) l d) (ZbQ it (p0,s,g,x,n,hd) (Zp (p0,s,g,x,n,hd) n d) n):=λk hk h4=>by
  subst hk;have b1:(n==1)=false:=by rcases h4 with rfl|rfl|rfl<;>rfl
  have b2:(n==2||n==7)=false:=by rcases h4 with rfl|rfl|rfl<;>rfl
  have b3:(n==3)=false:=by rcases h4 with rfl|rfl|rfl<;>rfl
  have b8:(n==8)=false:=by rcases h4 with rfl|rfl|rfl<;>rfl
  have b9:(n==9)=false:=by rcases h4 with rfl|rfl|rfl<;>rfl
  have hck:Zl (p0,s,g,x,n,hd) l d=bif decide (n<x.2.2.2)&& !(n==6) then (Ze p0 l,s,g,x,n+1,hd) else endX (Ze p0 l) s g hd l:=by unfold Zl;simp only[hr,hsx,b1,b2,b3,b8,b9,Yc]
  rw[hck];cases hb:decide (n<x.2.2.2)&& !(n==6)
  ·exact Zxr _ _ _ _ _ _
  ·obtain⟨l',y,rfl,y1,y2⟩:=get n rfl b8 b9 b1;have h6:n≠6:=by simp at hb;exact hb.2
   refine⟨⟨by show 1<=n+1;omega,by show n+1<=9;omega⟩,.inr ⟨l',(y.1,x,y.2.2.1,n,y.2.2.2.2),?_,rfl,?_⟩⟩
   ·have e:Zw0 n=n-1:=by rcases h4 with rfl|rfl|rfl<;>rfl
    rw[e] at y2;have w:wrap .i64 (y.2.2.2.1+1)=n:=by rw[y2,wrap_i64 _ (by omega) (by omega)];omega
    rcases h4 with rfl|rfl|rfl
    ·show Zbl (l'++[y]) _=_;rw[Z4,w];rfl
    ·show Zbl (l'++[y]) _=_;rw[Z4,w];rfl
    ·exact absurd rfl h6
   ·show n=Zw0 (n+1);rcases h4 with rfl|rfl|rfl
    ·rfl
    ·rfl
    ·exact absurd rfl h6
 have hcases:n=1\/n=2\/n=3\/n=4\/n=5\/n=6\/n=7\/n=8\/n=9:=by omega
 have wait:∀k:Int,k=3\/k=7->1<=k/\k<=9:=λk hk=>by omega
 rcases hcases with e|e|e|e|e|e|e|e|e
 ·subst e;have hck:Zl (p0,s,g,x,1,hd) l d=(Ze p0 l,s,g,x,2,hd):=by unfold Zl;simp only[hr,hsx];rfl
  rw[hck];exact⟨by show (1:Int)<=2/\(2:Int)<=9;decide,.inr ⟨it,_,rfl,rfl,rfl⟩⟩
 ·subst e;obtain⟨l',y,rfl,y1,y2⟩:=get 2 rfl rfl rfl rfl;have hck:Zl (p0,s,g,x,2,hd) l d=(Ze p0 l,s,g,x,bif l.1|| !Zg x.1 then 3 else 7,bif l.1|| !Zg x.1 then l.2.1 else hd):=by unfold Zl;simp only[hr,hsx];show (bif l.1|| !Zg x.1 then _ else _)=_;cases l.1|| !Zg x.1<;>rfl
  have w:wrap .i64 (y.2.2.2.1+1)=2:=by rw[y2];rfl
  rw[hck];refine⟨wait _ (by cases l.1|| !Zg x.1<;>simp),.inr ⟨l',(y.1,x,y.2.2.1,2,y.2.2.2.2),?_,rfl,?_⟩⟩
  ·show Zbl (l'++[y]) _=_;rw[Z4,w];rfl
  ·show (2:Int)=Zw0 (bif l.1|| !Zg x.1 then 3 else 7);cases l.1|| !Zg x.1<;>rfl
 ·subst e;obtain⟨l',y,rfl,y1,y2⟩:=get 3 rfl rfl rfl rfl;have hck:Zl (p0,s,g,x,3,hd) l d=bif le3 (ZaE (Ze p0 l) x d).2.2.2 then endX (Ze p0 l) s (g++[(ZaE (Ze p0 l) x d).2.2.1]) hd l else (Ze p0 l,s,g++[(ZaE (Ze p0 l) x d).2.2.1],ZaE (Ze p0 l) x d,4,hd):=by unfold Zl;simp only[hr,hsx];rfl
  rw[hck];cases le3 (ZaE (Ze p0 l) x d).2.2.2
  ·have w:wrap .i64 (y.2.2.2.1+1)=3:=by rw[y2];rfl
   refine⟨by show (1:Int)<=4/\(4:Int)<=9;decide,.inr ⟨l',(y.1,ZaE (Ze p0 l) x d,y.2.2.1,3,y.2.2.2.2),?_,rfl,rfl⟩⟩;have hcur:Zp (p0,s,g,x,3,hd) 3 d=ZaE (Ze p0 l) x d:=by unfold ZaE;rw[Zq2];rfl
   rw[hcur];show Zbl (l'++[y]) _=_;rw[Z4,w];rfl
  ·exact Zxr _ _ _ _ _ _
 ·exact more 4 e (.inl rfl)
 ·exact more 5 e (.inr (.inl rfl))
 ·exact more 6 e (.inr (.inr rfl))
 ·subst e;obtain⟨l',y,rfl,y1,y2⟩:=get 7 rfl rfl rfl rfl;have hck:Zl (p0,s,g,x,7,hd) l d=(Ze p0 l,s,g,x,bif l.1|| !Zg x.1 then 3 else 7,bif l.1|| !Zg x.1 then l.2.1 else hd):=by unfold Zl;simp only[hr,hsx];show (bif l.1|| !Zg x.1 then _ else _)=_;cases l.1|| !Zg x.1<;>rfl
  rw[hck];refine⟨wait _ (by cases l.1|| !Zg x.1<;>simp),.inr ⟨l',(y.1,x,wrap .i64 (y.2.2.1+1),y.2.2.2),?_,rfl,?_⟩⟩
  ·show Zbl (l'++[y]) _=_;rw[Z4];rfl
  ·show y.2.2.2.1=Zw0 (bif l.1|| !Zg x.1 then 3 else 7);rw[y2];cases l.1|| !Zg x.1<;>rfl
 ·subst e;have hck:Zl (p0,s,g,x,8,hd) l d=(Ze p0 l,s,g,x,idlX (Ze p0 l) s l.2.1,hd):=by unfold Zl;simp only[hr,hsx];rfl
  rw[hck];exact Zjr _ (ZN0 _ _ _)
 ·subst e;have hck:(Zl (p0,s,g,x,9,hd) l d).2.2.2.2.1=bif ZbP (Ze p0 l) l==0 then (bif l.2.1 then 8 else 9) else (bif l.2.1 then 8 else 1):=by unfold Zl;simp only[hr,hsx];show (bif ZbP (Ze p0 l) l==0 then _ else _:CORT).2.2.2.2.1=_;cases ZbP (Ze p0 l) l==0<;>rfl
  refine Zjr _ ?_;rw[hck];cases ZbP (Ze p0 l) l==0<;>cases l.2.1<;>simp
def RbOk (st:STT):Prop:=ZH7 st.1.1/\Zyi st.1.1 st.2.2.1
theorem ZU1 (b:BRDT) (s0:TC) (st:STT) (i:INPT) (h:RbOk st):RbOk (ZcL b s0 st i):=by
 have hc:(ZcL b s0 st i).1.1=Zl st.1.1 (Zbr b (Zt b st.1 i) i) (busS b (Zt b st.1 i) i).2:=ZhF b st.1 i;refine⟨by rw[hc];exact ZJm _ _ _ h.1,?_⟩;rw[hc];show Zyi _ (ZbQ st.2.2.1 st.1.1 (Zp st.1.1 (nowS st.1 i) (busS b (Zt b st.1 i) i).2) (nowS st.1 i));have hl2:(Zbr b (Zt b st.1 i) i).2.2.1=i.2.2.1:=rfl;cases hr:i.2.2.1
 ·have hnow:nowS st.1 i=Zq st.1.1:=by unfold nowS;rw[hr];rfl
  rw[hnow];exact ZNy h.2 _ _ (by rw[hl2,hr])
 ·refine Zjr _ (.inr (.inr ?_));unfold Zl;rw[hl2,hr];rfl
variable {α β:Type}
theorem Zl8 (c:Bool) (x y:α×β):(bif c then x.1 else y.1)=(bif c then x else y).1:=by cases c<;>rfl
theorem Zl7 (c:Bool) (x y:α×β):(bif c then x.2 else y.2)=(bif c then x else y).2:=by cases c<;>rfl
theorem ZlI (p:α×β):(p.1,p.2)=p:=rfl
theorem ZUS (k t:Int) (x:TY) (d:Int) (i o:Bool):(ZaZ k t x d i o).1=t:=by
 simp only[ZaZ,ZhR,RT.val];cases t==8
 ·cases t==9
  ·cases t==10
   ·cases rOn k<;>rfl
   ·rfl
  ·rfl
 ·rfl
theorem ZTc (c:CORT) (l:LINT) (d:Int):(ZbN c l d).1=bif l.2.2.1 then 10 else Zq c:=ZUS _ _ _ _ _ _
theorem ZrG (d:QT3):(ZbF d).2.2=Zaa d:=by rw[ZI4];cases Zaa d<;>rfl
theorem ZOX (b:BRDT) (s:SYST) (i:INPT) (hr:i.2.2.1=true):
  (busS b (Zt b s i) i).2=0/\(Zah b s i).1=(Zl s.1 (Zbr b (Zt b s i) i) 0,s.2.1,ZUM (Zt b s i).2.2.1 0,(s.2.2.2.1.1,s.2.2.2.1.2.1,0),ZcD s,s.2.2.2.2.2)/\ZcV b s i=false:=by
 have hb:busS b (Zt b s i) i=(Zt b s i,0):=by unfold busS;dsimp only;rw[hr];rfl
 have hw:ZjR s i=false:=by unfold ZjR;rw[hr];rfl
 have hc:ZjI b s i=(Zl s.1 (Zbr b (Zt b s i) i) 0,s.2.1,(Zt b s i).2.2.1,s.2.2.2.1,ZcD s,s.2.2.2.2.2):=by unfold ZjI;dsimp only;rw[hb];rfl
 have hwr:Zds b s i=ZjI b s i:=by unfold Zds;rw[hw];rfl
 have hm:ZcV b s i=false:=by
  unfold ZcV;have:ZhJ (pinS b s i)=false:=by
   cases h:ZhJ (pinS b s i)
   ·rfl
   ·unfold pinS at h;have:=(Zi4 h).1;rw[show (Zbr b (Zt b s i) i).2.2.1=i.2.2.1 from rfl,hr] at this;simp at this
  rw[this];rfl
 refine⟨by rw[hb],?_,hm⟩;show ZCX (Zk6 b s i) i.2.2.1=_;have:Zk6 b s i=ZjI b s i:=by unfold Zk6;dsimp only;rw[hm,hwr];rfl
 rw[this,hc,hr];rfl
theorem ZSv (b:BRDT) (s:SYST) (i:INPT) (hr:i.2.2.1=false) {L:LINT} {D:Int} {B:PICT} {w k7 x71 x72 d2:Bool} {d1 p:Int} {Wm:List Cell} {Wd:QT3}
  (hL:Zbr b (Zt b s i) i=L) (hD:(busS b (Zt b s i) i).2=D) (hB:(busS b (Zt b s i) i).1.2.2.1=B) (hw:(Zq s.1==3&&ZbU s.1.2.2.2.1.1)=w) (h7:(s.1.2.2.2.1.1 !=7)=k7)
  (hp:wrap .u8 s.1.2.2.2.1.2.1=p) (h71:(Ze9 b p).2=x71) (h72:x71=true->(Ze9 b p).1=x72) (hd:Zix b p=(d1,d2))
  (hm:(bif w then bif k7 then ZcB b.2.1 s.2.1 s.1.2.2.2.1.2.1 s.1.2.2.2.1.2.2.1 else s.2.1 else s.2.1)=Wm)
  (hwd:(bif w then bif k7 then s.2.2.2.1 else bif x71 then s.2.2.2.1 else bif d2 then Zh4 s.2.2.2.1 d1 s.1.2.2.2.1.2.2.1 else s.2.2.2.1 else s.2.2.2.1)=Wd):
  ZcV b s i=(ZhJ (ZbN s.1 L D)&&Zaa Wd)/\pinS b s i=ZbN s.1 L D/\
  (Zah b s i).1=(Zl s.1 L D,(bif ZhJ (ZbN s.1 L D)&&Zaa Wd then ZcB b.2.1 Wm (ZbF Wd).2.1.1 (ZbF Wd).2.1.2 else Wm),(bif w then bif k7 then B else bif x71 then Zml B x72 s.1.2.2.2.1.2.2.1 else B else B),
   (bif ZhJ (ZbN s.1 L D)&&Zaa Wd then (ZbF Wd).1 else Wd),ZcD s,(bif w then bif k7 then s.2.2.2.2.2 else s.2.2.2.2.2++[(p,s.1.2.2.2.1.2.2.1)] else s.2.2.2.2.2))/\
  (Zah b s i).2.2.2.2.1=(bif ZhJ (ZbN s.1 L D)&&Zaa Wd then (ZbF Wd).2.1 else (0,0)):=by
 obtain⟨k1,k2,k3⟩:=ZhG b (Zt b s i) i;have hc:ZjI b s i=(Zl s.1 L D,s.2.1,B,s.2.2.2.1,ZcD s,s.2.2.2.2.2):=by unfold ZjI;dsimp only;rw[k1,k2,k3,hB,hL,hD];rfl
 have hws:ZjR s i=w:=by unfold ZjR;rw[hr];exact hw
 have hW:Zds b s i=(Zl s.1 L D,Wm,(bif w then bif k7 then B else bif x71 then Zml B x72 s.1.2.2.2.1.2.2.1 else B else B),Wd,ZcD s,(bif w then bif k7 then s.2.2.2.2.2 else s.2.2.2.2.2++[(p,s.1.2.2.2.1.2.2.1)] else s.2.2.2.2.2)):=by
  unfold Zds Zqa;dsimp only;rw[hws,hc,hp,h7,hd,h71,<-hm,<-hwd];cases w
  ·rfl
  ·cases k7
   ·cases hx:x71
    ·rfl
    ·rw[h72 hx];rfl
   ·rfl
 have hP:pinS b s i=ZbN s.1 L D:=by unfold pinS;rw[k1,hL,hD];rfl
 have hM:ZcV b s i=(ZhJ (ZbN s.1 L D)&&Zaa Wd):=by unfold ZcV;rw[hP,hW]
 have hcell:(Zah b s i).2.2.2.2.1=(bif ZhJ (ZbN s.1 L D)&&Zaa Wd then (ZbF Wd).2.1 else (0,0)):=by
  show (bif ZcV b s i then ((Zds b s i).2.2.2.1.1,(Zds b s i).2.2.2.1.2.1) else (0,0))=_;rw[hM,hW,ZI4];cases ZhJ (ZbN s.1 L D)
  ·rfl
  ·cases Zaa Wd<;>rfl
 refine⟨hM,hP,?_,hcell⟩;show ZCX (Zk6 b s i) i.2.2.1=_;rw[hr];show Zk6 b s i=_;unfold Zk6;dsimp only;rw[hM,hW,ZI4];cases ZhJ (ZbN s.1 L D)
 ·rfl
 ·cases Zaa Wd<;>rfl
abbrev TupB:=List INPT×Int×Int×CORT×List Cell×PICT×(QT3)×Int×BRDT×SYST×TC×List (Int×Int)×List PINT×List ITMT×List EVTT×List TC×PUnit
def tupB (l:List INPT) (j:Int) (b:BRDT) (s0:SYST) (Zan:TC) (st:STT):TupB:=(l,(l.length:Int),j,st.1.1,st.1.2.1,st.1.2.2.1,st.1.2.2.2.1,st.1.2.2.2.2.1,b,s0,Zlm Zan st.2.2.2.2,st.1.2.2.2.2.2,st.2.1,st.2.2.1,st.2.2.2.1,st.2.2.2.2,())
theorem ZHD (c:CORT) (it':List ITMT) (y:ITMT) (d:Int) (h:Zyi c (it'++[y])):
  (bif Zq c==1 then it'++[y]++[(1,Zp c (Zq c) d,0,1,c.1.2.2.1,c.1.2.2.2.2.2.2.2.2.2.2.2.2)] else bif Zq c==7 then it'++[(y.1,y.2.1,wrap .i64 (y.2.2.1+1),y.2.2.2)] else
   bif (bif Zq c==2 then Zq c==2 else bif Zq c==3 then Zq c==3 else bif Zq c==4 then Zq c==4 else bif Zq c==5 then Zq c==5 else Zq c==6) then it'++[(y.1,Zp c (Zq c) d,y.2.2.1,Zq c,y.2.2.2.2)] else
   bif Zq c==8 then (bif y.1==2&&(y.2.2.2.2.1==c.1.2.2.1&&y.2.2.2.2.2==c.1.2.2.2.2.2.2.2.2.2.2.2.2) then it'++[(y.1,y.2.1,y.2.2.1,wrap .i64 (y.2.2.2.1+1),y.2.2.2.2)] else it'++[y]++[(2,(0,0,0,0),0,1,c.1.2.2.1,c.1.2.2.2.2.2.2.2.2.2.2.2.2)]) else
   bif Zq c==9 then (bif y.1==3&&(y.2.2.2.2.1==c.1.2.2.1&&y.2.2.2.2.2==c.1.2.2.2.2.2.2.2.2.2.2.2.2) then it'++[(y.1,y.2.1,y.2.2.1,wrap .i64 (y.2.2.2.1+1),y.2.2.2.2)] else it'++[y]++[(3,(0,c.1.2.1.2.2.2.2.2.2.2.2.2,0,0),0,1,c.1.2.2.1,c.1.2.2.2.2.2.2.2.2.2.2.2.2)]) else it'++[y])=
  ZbQ (it'++[y]) c (Zp c (Zq c) d) (Zq c):=by
 obtain⟨hn,h⟩:=h;have hT:Zq c=c.2.2.2.2.1:=ZJD hn;rw[<-hT] at hn h;have hy:¬(Zq c=8\/Zq c=9\/Zq c=1)->y.2.1=c.2.2.2.1/\y.2.2.2.1=Zw0 (Zq c):=λhx=>by
  rcases h with h|⟨l,z,e,h1,h2⟩
  ·exact absurd h hx
  ·have:=Ya1 e rfl;obtain⟨_,e2⟩:=this;simp only[YaJ,and_true] at e2;rw[e2];exact⟨h1,h2⟩
 generalize Zq c=n at hn hy;have hj:∀f:ITMT->ITMT,Zbl (it'++[y]) f=it'++[f y]:=Z4 it' y;have hg:∀k:Int,n=k->Zw0 k+1=k->¬(k=8\/k=9\/k=1)->wrap .i64 (y.2.2.2.1+1)=n:=λk hk h1 h2=>by subst hk;rw[(hy h2).2,h1,wrap_i64 _ (by omega) (by omega)]
 have e:n=1\/n=2\/n=3\/n=4\/n=5\/n=6\/n=7\/n=8\/n=9:=by omega
 rcases e with e|e|e|e|e|e|e|e|e
 ·subst e;rfl
 ·have w:=hg 2 e rfl (by decide);subst e;show _=Zbl _ _;rw[hj,w];rfl
 ·have w:=hg 3 e rfl (by decide);subst e;show _=Zbl _ _;rw[hj,w];rfl
 ·have w:=hg 4 e rfl (by decide);subst e;show _=Zbl _ _;rw[hj,w];rfl
 ·have w:=hg 5 e rfl (by decide);subst e;show _=Zbl _ _;rw[hj,w];rfl
 ·have w:=hg 6 e rfl (by decide);subst e;show _=Zbl _ _;rw[hj,w];rfl
 ·subst e;show _=Zbl _ _;rw[hj,(hy (by decide)).1];rfl
 ·subst e;show _=Zgi _ _ _ _;unfold Zgi;rw[List.getLast?_concat];dsimp only;rw[hj];rfl
 ·subst e;show _=Zgi _ _ _ _;unfold Zgi;rw[List.getLast?_concat];dsimp only;rw[hj];rfl
theorem Zjs (s:TC) (l:List TC) (x:TC):Zlm s (l++[x])=x:=by simp[Zlm]
theorem l1:((1:Int)==1)=true/\((1:Int)==10)=false/\((1:Int) !=10)=true:=by decide
theorem l10:((10:Int)==1)=false/\((10:Int)==2)=false/\((10:Int)==3)=false/\((10:Int)==4)=false/\((10:Int)==5)=false/\((10:Int)==6)=false/\((10:Int)==7)=false/\((10:Int)==8)=false/\((10:Int)==9)=false/\((10:Int)==10)=true/\((10:Int) !=10)=false:=by decide
theorem ZP8 (l:List INPT) (j:Nat) (b:BRDT) (s0:SYST) (Zan:TC) (st:STT) (n:Nat) (h:RunOk b st n) (q:RbOk st) (hj:j<l.length) (hl:l.length<=100000) (hn:n<=200000) (hpp:inR .u8 b.2.2.2.1) (i:INPT) (hi:R.get ZfL l (j:Int)=i):
  (Zc1 (tupB l (j:Int) b s0 Zan st)).val=some (Go1.cont (tupB l ((j+1:Nat):Int) b s0 Zan (ZcL b Zan st i))):=by
 have hms:=mst;obtain⟨s,tr,it,ev,cp⟩:=st;obtain⟨g,m,o,k,t,hitl,hev,hcp,ne⟩:=h;obtain⟨hsrc,hlast⟩:=q;simp only at g m o k t hitl hev hcp ne hsrc hlast;have d:decide ((j:Int)<(l.length:Int))=true:=Yz (by omega);have hin:Zh (j:Int) l.length=true:=ZP.2 ⟨by omega,by omega⟩;have w:wrap .i64 ((j:Int)+1)=((j+1:Nat):Int):=by rw[wrap_i64 _ (by omega) (by omega)];omega
 obtain⟨p,hp⟩:∃p,wrap .u8 s.1.2.2.2.1.2.1=p:=⟨_,rfl⟩;have hpr:inR .u8 p:=by rw[<-hp];exact Zaq .u8 _
 obtain⟨p1,p2⟩:=ZQD hpr hpp;have b4:∀y:Int×Int,Nat.ble (List.length (s.2.2.2.2.2++[y])) most=true:=λy=>Zby (by simp;omega)
 have b5:smC s.2.1=true:=smCb (by omega);have b6:∀t v,smC (ZcB b.2.1 s.2.1 t v)=true:=λt v=>smCb (by have:=Zmb b.2.1 s.2.1 t v;omega)
 have b7:∀c1 c2:Bool,∀t v,smC (bif c1 then bif c2 then ZcB b.2.1 s.2.1 t v else s.2.1 else s.2.1)=true:=λc1 c2 t v=>by cases c1<;>cases c2<;>first|exact b6 t v|exact b5
 have b9:ZmM s.1=true:=Zgz.2 (by omega);have btr:∀x:PINT,Nat.ble (tr++[x]).length most=true:=λx=>Zby (by simp;omega)
 have bev:∀x:EVTT,Nat.ble (ev++[x]).length most=true:=λx=>Zby (by simp;omega)
 have bev2:∀(c:Bool) (x y:EVTT),Nat.ble ((bif c then ev++[x] else ev)++[y]).length most=true:=λc x y=>Zby (by cases c<;>simp<;>omega)
 have bcp:∀x:TC,Nat.ble (cp++[x]).length most=true:=λx=>Zby (by simp;omega)
 have bcp2:∀(c:Bool) (x y:TC),Nat.ble ((bif c then cp++[x] else cp)++[y]).length most=true:=λc x y=>Zby (by cases c<;>simp<;>omega)
 have bgt:Nat.ble (List.length s.1.2.2.1) most=true:=Zby (by omega);have bit:∀x:ITMT,Nat.ble (it++[x]).length most=true:=λx=>Zby (by simp;omega)
 have n1:decide (iN ([]:List ITMT).length>0)=false:=rfl;have n2:Zh (wrap .i64 (iN ([]:List ITMT).length-1)) ([]:List ITMT).length=false:=rfl;obtain⟨Q,hQ⟩:∃Q,(Zt b s i).2.2.1=Q:=⟨_,rfl⟩;have hQ':(bif b.2.2.2.2.2.1 then s.2.2.1 else ZkW s.2.2.1 i.2.2.2.2.2.2.2.2.1)=Q:=by rw[<-hQ];unfold Zt;cases b.2.2.2.2.2.1<;>rfl
 obtain⟨L,hL⟩:∃L,Zbr b (Zt b s i) i=L:=⟨_,rfl⟩;have hL':=(ZWF b s i g).symm.trans hL;have hLr:L.2.2.1=i.2.2.1:=by rw[<-hL];rfl
 obtain⟨x71,h71⟩:∃x,(!b.2.2.2.2.2.1&&decide (wrap .u8 (p-b.2.2.2.1)<2))=x:=⟨_,rfl⟩;obtain⟨x72,h72⟩:∃x,(wrap .u8 (p-b.2.2.2.1)==1)=x:=⟨_,rfl⟩;have e71:(Ze9 b p).2=x71:=by rw[ZTK,<-h71,p1]
 have e72:x71=true->(Ze9 b p).1=x72:=λe=>by rw[<-h71,Yb] at e;rw[ZTK,<-h72,p2 e.2]
 have hnn:it=[]->Zq s.1=1:=ne;have hsn:∀it' y,it=it'++[y]->wrap .i64 (iN (it'++[y]).length-1)=(it'.length:Int)/\decide (iN (it'++[y]).length>0)=true:=λit' y e=>by rw[e] at hitl;exact⟨ZIe it' y (by simp at hitl;omega),Yz (by simp only[iN,Le,Yd,List.length_singleton];omega)⟩
 have hit:it=[]\/∃it' y,it=it'++[y]:=by
  rcases Yag it with e|⟨it',y,e⟩
  ·exact .inl e
  ·exact .inr ⟨it',y,by rw[e,Yac]⟩
 cases hr:i.2.2.1
 ·obtain⟨D,hD⟩:∃D,(busS b (Zt b s i) i).2=D:=⟨_,rfl⟩;have hb:=bus_p b (Zt b s i) i (!i.2.2.1&&(Zq s.1==3&&Zba s.1.2.2.2.1.1)) (s.1.2.2.2.1.1==8||s.1.2.2.2.1.1==9) x71 x72 rfl rfl
   (by show _=(Ze9 b (wrap .u8 s.1.2.2.2.1.2.1)).2;rw[hp,e71]) (λe=>by show _=(Ze9 b (wrap .u8 s.1.2.2.2.1.2.1)).1;rw[hp,e72 e]) (λe=>by rw[<-h71,e];rfl)
  rw[hQ,hr] at hb;have hD2:(bif Zq s.1==3&&Zba s.1.2.2.2.1.1 then bif decide (s.1.2.2.2.1.1>=1)&&decide (s.1.2.2.2.1.1<=5) then ZkZ b.2.1 s.2.1 s.1.2.2.2.1.2.1 else bif s.1.2.2.2.1.1==8||s.1.2.2.2.1.1==9 then bif !b.2.2.2.2.2.1 then (vAck Q).2 else i.2.2.2.2.2.2.2.2.2 else bif x71 then (ZpL Q x72).2 else bif decide (wrap .u8 (p-b.2.2.2.2.1)<4) then Zmm s.2.2.2.1 (wrap .i64 (wrap .u8 (p-b.2.2.2.2.1))) else i.2.2.2.2.2.2.2.2.2 else 0)=D:=by rw[<-hD,hb,ZTL,<-hp];rfl
  obtain⟨B,hB⟩:∃B,(busS b (Zt b s i) i).1.2.2.1=B:=⟨_,rfl⟩;have hB2:(bif Zq s.1==3&&Zba s.1.2.2.2.1.1 then bif decide (s.1.2.2.2.1.1>=1)&&decide (s.1.2.2.2.1.1<=5) then Q else bif s.1.2.2.2.1.1==8||s.1.2.2.2.1.1==9 then bif !b.2.2.2.2.2.1 then (vAck Q).1 else Q else bif x71 then (ZpL Q x72).1 else Q else Q)=B:=by rw[<-hB,hb];rfl
  obtain⟨Wm,hm⟩:∃z,(bif Zq s.1==3&&ZbU s.1.2.2.2.1.1 then bif s.1.2.2.2.1.1 !=7 then ZcB b.2.1 s.2.1 s.1.2.2.2.1.2.1 s.1.2.2.2.1.2.2.1 else s.2.1 else s.2.1)=z:=⟨_,rfl⟩;have b10:smC Wm=true:=by rw[<-hm];exact b7 _ _ _ _
  obtain⟨Wd,hwd⟩:∃z,(bif Zq s.1==3&&ZbU s.1.2.2.2.1.1 then bif s.1.2.2.2.1.1 !=7 then s.2.2.2.1 else bif x71 then s.2.2.2.1 else bif decide (wrap .u8 (p-b.2.2.2.2.1)<4) then Zh4 s.2.2.2.1 (wrap .i64 (wrap .u8 (p-b.2.2.2.2.1))) s.1.2.2.2.1.2.2.1 else s.2.2.2.1 else s.2.2.2.1)=z:=⟨_,rfl⟩;obtain⟨kM,kP,kS,kC⟩:=ZSv b s i hr hL hD hB rfl rfl hp e71 e72 (ZTL b p) hm hwd;obtain⟨M,hM⟩:∃M,(ZhJ (ZbN s.1 L D)&&Zaa Wd)=M:=⟨_,rfl⟩;rw[hM] at kM kS kC;have hM':((ZbN s.1 L D).2.2.2.2.2.2.2.2.2.2.2.2.2.2.2.1&&Zaa Wd)=M:=hM;rw[hr] at hLr;have hP1:(ZbN s.1 L D).1=Zq s.1:=by rw[ZTc,hLr];rfl
  have hn9:1<=s.1.2.2.2.2.1/\s.1.2.2.2.2.1<=9:=hlast.1;obtain⟨c1,c2,c3,c4⟩:=ZZk s.1 L D hn9 hLr;have hT10:(Zq s.1==10)=false:=by have:=ZJD hn9;show (Z2 s.1.2.2.2.2.1==10)=false;rw[this];simp;omega
  have hT10':(Zq s.1 !=10)=true:=by rw[bne,hT10];rfl
  rw[hr] at hL';have hR:ZcL b Zan (s,tr,it,ev,cp) i=((Zah b s i).1,tr++[ZbN s.1 L D],ZbQ (it) s.1 (Zp s.1 (Zq s.1) D) (Zq s.1),evE ev s.1 L D (Zah b s i).2.2.2.2.1 M,evC cp Zan s.1 (Zl s.1 L D) L D M):=by
   have hnow:nowS s i=Zq s.1:=by unfold nowS;rw[hr];rfl
   have hcc:(Zah b s i).1.1=Zl s.1 L D:=by rw[kS]
   show ((Zah b s i).1,tr++[pinS b s i],ZbQ (it) s.1 (Zp s.1 (nowS s i) (busS b (Zt b s i) i).2) (nowS s i),evE ev s.1 (Zbr b (Zt b s i) i) (busS b (Zt b s i) i).2 (Zah b s i).2.2.2.2.1 (ZcV b s i),evC cp Zan s.1 (Zah b s i).1.1 (Zbr b (Zt b s i) i) (busS b (Zt b s i) i).2 (ZcV b s i))=_;rw[hnow,hcc,kP,kM,hL,hD]
  have hMv:(M&&Zaa Wd)=M:=by rw[<-hM];cases ZhJ (ZbN s.1 L D)<;>cases Zaa Wd<;>rfl
  have hMF:M=true->(finS s.1 L D).2=false:=λe=>by rw[<-hM,Yb] at e;have h8:=(Zi4 e.1).2;rw[ZJD hn9] at h8;unfold finS rdS;rw[hLr,h8];rfl
  rcases hit with rfl|⟨it',y,rfl⟩
  have hT1:=hnn rfl;have hP0:(ZbN s.1 L D).1=1:=by rw[hP1,hT1]
  have hI:ZbQ [] s.1 (Zp s.1 (Zq s.1) D) (Zq s.1)=[]++[(1,Zp s.1 (Zq s.1) D,0,1,s.1.1.2.2.1,s.1.1.2.2.2.2.2.2.2.2.2.2.2.2)]:=by rw[hT1];rfl
  unfold tupB Zc1;simp only[RT.val,hi,hr,hp,d,hin,w,g,b4,b5,b7,b9,btr,bev,bev2,bcp,bcp2,bgt,bit,ZRA,Zlt,ZEQ,Zl8,Zl7,clkX,pstR,hQ',hL',h71,h72,ZrG,ZlI,ZbO,ZaW,Bool.and_assoc,Yax,Y1,Yk,Yw,Yh,Ym,Yj,Yx,YQ,YY,YZ,Bool.not_or_self,Bool.or_not_self,Ya,Yc,hD2,hB2,hm,b10,hwd,hM',hP0,l1,n1,n2];rw[c3,hR,hI,hMv]
  rotate_left
  obtain⟨w0,w1⟩:=hsn it' y rfl;have w2:=λz:ITMT=>ZCW it' z
  have w3:=λz:ITMT=>ZEX (r:=Zdu) it' z
  have w4:=λz:ITMT=>Zlz it' y z
  have w5:=λz z2:ITMT=>Zlz it' z z2
  unfold tupB Zc1;simp only[RT.val,hi,hr,hp,d,hin,w,g,b4,b5,b7,b9,btr,bev,bev2,bcp,bcp2,bgt,bit,ZRA,Zlt,ZEQ,Zl8,Zl7,clkX,pstR,hQ',hL',h71,h72,ZrG,ZlI,ZbO,ZaW,Bool.and_assoc,Yax,Y1,Yk,Yw,Yh,Ym,Yj,Yx,YQ,YY,YZ,Bool.not_or_self,Bool.or_not_self,Ya,Yc,hD2,hB2,hm,b10,hwd,hM',hP1,hT10,hT10',w0,w1,w2,w3,w4,w5];rw[c3,ZHD s.1 it' y D hlast,hR,hMv];all_goals
    unfold evE evC;simp only[kS,kC,hLr,c1,c4,Yc];cases hF:(finS s.1 L D).2
    ·cases M
     ·rfl
     ·simp only[Ya,Yc,Zjs];rfl
    ·have hMz:M=false:=by
      cases M
      ·rfl
      ·rw[hMF rfl] at hF;simp at hF
     obtain⟨g1,g2⟩:=c2 hF;have hk:(bif s.1.2.1==0 then (1:Int) else bif s.1.2.1==5 then 2 else 3)=Zmg s.1.2.1:=ZRH hsrc;rw[hMz,g1,g2,hk];simp only[Ya,Yc,Zjs];rfl
 ·obtain⟨r1,r2,r3⟩:=ZOX b s i hr;rw[hL] at r2;have hP1:(ZbN s.1 L 0).1=10:=by rw[ZTc,hLr,hr];rfl
  have hH:(ZbN s.1 L 0).2.2.2.2.2.2.2.2.2.2.2.2.2.2.2.1=false:=by
   cases e:(ZbN s.1 L 0).2.2.2.2.2.2.2.2.2.2.2.2.2.2.2.1
   ·rfl
   ·have:=(Zi4 e).1;rw[hLr,hr] at this;simp at this
  have hR:ZcL b Zan (s,tr,it,ev,cp) i=((Zl s.1 L 0,s.2.1,ZUM Q 0,(s.2.2.2.1.1,s.2.2.2.1.2.1,0),ZcD s,s.2.2.2.2.2),tr++[ZbN s.1 L 0],Zgi it 4 s.1 (4,(0,0,0,0),0,1,ZaA s.1,sodC s.1),evE ev s.1 L 0 (Zah b s i).2.2.2.2.1 false,evC cp Zan s.1 (Zl s.1 L 0) L 0 false):=by
   have hnow:nowS s i=10:=by unfold nowS;rw[hr];rfl
   have hcc:(Zah b s i).1.1=Zl s.1 L 0:=by rw[r2]
   have hp2:pinS b s i=ZbN s.1 L 0:=by unfold pinS;rw[(ZhG b (Zt b s i) i).1,hL,r1];rfl
   show ((Zah b s i).1,tr++[pinS b s i],ZbQ it s.1 (Zp s.1 (nowS s i) (busS b (Zt b s i) i).2) (nowS s i),evE ev s.1 (Zbr b (Zt b s i) i) (busS b (Zt b s i) i).2 (Zah b s i).2.2.2.2.1 (ZcV b s i),evC cp Zan s.1 (Zah b s i).1.1 (Zbr b (Zt b s i) i) (busS b (Zt b s i) i).2 (ZcV b s i))=_;rw[hnow,hcc,hp2,r3,hL,r1,r2,hQ];rfl
  rw[hr] at hL';rcases hit with rfl|⟨it',y,rfl⟩
  ·unfold tupB Zc1;simp only[RT.val,hi,hr,hp,d,hin,w,g,b4,b5,b7,b9,btr,bev,bev2,bcp,bcp2,bgt,bit,ZRA,Zlt,ZEQ,Zl8,Zl7,clkX,pstR,hQ',hL',h71,h72,ZrG,ZlI,ZbO,ZaW,Bool.and_assoc,Yax,Y1,Yk,Yw,Yh,Ym,Yj,Yx,YQ,YY,YZ,Bool.not_or_self,Bool.or_not_self,Ya,Yc,hP1,hH,l10,n1,n2];rw[hR];unfold evE evC Zgi;simp only[hLr,hr,Ya,Zjs,List.getLast?_nil];rfl
  ·obtain⟨w0,w1⟩:=hsn it' y rfl;have w2:=λz:ITMT=>ZCW it' z
   have w3:=λz:ITMT=>ZEX (r:=Zdu) it' z
   have w4:=λz:ITMT=>Zlz it' y z
   have w5:=λz z2:ITMT=>Zlz it' z z2
   unfold tupB Zc1;simp only[RT.val,hi,hr,hp,d,hin,w,g,b4,b5,b7,b9,btr,bev,bev2,bcp,bcp2,bgt,bit,ZRA,Zlt,ZEQ,Zl8,Zl7,clkX,pstR,hQ',hL',h71,h72,ZrG,ZlI,ZbO,ZaW,Bool.and_assoc,Yax,Y1,Yk,Yw,Yh,Ym,Yj,Yx,YQ,YY,YZ,Bool.not_or_self,Bool.or_not_self,Ya,Yc,hP1,hH,l10,w0,w1,w2,w3,w4,w5];rw[hR];unfold evE evC Zgi;simp only[hLr,hr,Ya,Zjs,List.getLast?_concat,Z4];rfl
theorem ZJQ (b:BRDT) (s0:TC):∀(l:List INPT) (st:STT),RbOk st->RbOk (ZeK b s0 st l)
 |[],st,h=>h
 |i::l,st,h=>ZJQ b s0 l (ZcL b s0 st i) (ZU1 b s0 st i h)
theorem ZU0 (b:BRDT) (l:List INPT) (s0:SYST) (Zan:TC) (st:STT) (h:RunOk b st 0) (q:RbOk st) (hpp:inR .u8 b.2.2.2.1) (hl:l.length<=70000):
  runF false Zc1 (λ_=>1000000000000) (tupB l 0 b s0 Zan st)=some (false,tupB l (l.length:Int) b s0 Zan (ZeK b Zan st l)):=by
 obtain⟨r,hr,h1⟩:=ZK (fl:=false) (t:=Zc1) (fuel:=λ_=>1000000000000)
  (λa=>∃i:Nat,i<=l.length/\a=tupB l (i:Int) b s0 Zan (ZeK b Zan st (l.take i)))
  (λa=>Int.toNat (a.2.1-a.2.2.1)) (λr=>r=(false,tupB l (l.length:Int) b s0 Zan (ZeK b Zan st l)))
  (by
   rintro a ⟨i,hi,rfl⟩;by_cases hlt:i<l.length
   ·left;have hk:=ZuB b Zan (l.take i) st 0 h;refine⟨_,ZP8 l i b s0 Zan (ZeK b Zan st (l.take i)) _ hk (ZJQ b Zan _ _ q) hlt (by omega) (by simp;omega) hpp _ rfl,⟨i+1,hlt,?_⟩,by show Int.toNat ((l.length:Int)-((i+1:Nat):Int))<Int.toNat ((l.length:Int)-(i:Int));omega⟩;have e:ZeK b Zan st (l.take (i+1))=ZcL b Zan (ZeK b Zan st (l.take i)) (R.get ZfL l (i:Int)):=by rw[ZI9 l ZfL.Df i hlt];simp only[ZeK,YaX,List.foldl_cons,List.foldl_nil];rfl
    rw[e]
   ·right;left;have e:i=l.length:=by omega
    subst e;have d:decide ((l.length:Int)<(l.length:Int))=false:=YR (by omega);rw[YaN]
    exact⟨_,by unfold tupB Zc1;simp only[RT.val,d,Yc],rfl⟩)
  (tupB l 0 b s0 Zan st) ⟨0,Yr _,rfl⟩ (by show Int.toNat ((l.length:Int)-0)<_;omega)
 rw[h1] at hr;exact hr
theorem ZWO (b:BRDT) (hw:wNew b=(newS b,0)):RbOk (Zck b):=by unfold Zck;rw[hw];exact⟨⟨Int.le_refl 0,(by decide:(0:Int)<=5)⟩,Zjr _ (.inr (.inr rfl))⟩
theorem Zx9 (b:BRDT) (l:List Int) (hg:smG b.2.1=true) (hm:b.2.2.2.2.2.2.length<=100000) (hl:l.length<=4000) (hpp:inR .u8 b.2.2.2.1):(Zrl b l).val=some (ZdH b (decX l)):=by
 have hms:=mst;obtain⟨e1,e2⟩:=ZH1 b;have hc:=smCb (l:=b.2.2.2.2.2.2) (by omega);rw[Zme b hg hc] at e2;have hn:=Zyk b hg hm;have hb:Nat.ble (List.length b.2.2.2.2.2.2) most=true:=Zby (by omega);have hd:ZyQ l=true:=by unfold ZyQ;rw[Yy];exact hl
 unfold ZdH;rw[hn.2.1];cases hx:Zci b !=0
 ·have h0:Zci b=0:=by simpa using hx
  have hnew:=ZMX b hg hm (by rw[hn.2.1,hx]);have hi:=(hn.2.2 (by rw[hn.2.1,h0])).1;have hf:=ZuB b (ZaO b) (decX l) (Zck b) 0 hi;have hld:=dec_len l;have hr:=ZU0 b (decX l) Zrp (ZaO b) (Zck b) hi (ZWO b hnew) hpp (by omega);have himg:=Zhs (Ziz.1 (ZIp b hg hc h0));have hs:tupB (decX l) 0 b Zrp (ZaO b) (Zck b)=(decX l,iN (decX l).length,0,newX b.1,b.2.2.2.2.2.2,ZVl,(0,0,0),0,b,Zrp,(newX b.1).1,[],[],[],[],[],()):=by unfold ZaO Zck;rw[hnew];unfold newS;rw[himg];rfl
  rw[hs] at hr;unfold Zrp Zma at hr;simp only[Zrl,RT.val,e1,e2,hx,hb,hd,hr,okB,getO,Yh,Yj,Yk,Ya,Yc];obtain⟨st,hst⟩:∃st,ZeK b (ZaO b) (Zck b) (decX l)=st:=⟨_,rfl⟩;rw[hst] at hf|-;have hk:=hf.k;have he:=hf.ev;have hcp:=hf.cp;have b1:Nat.ble (List.length st.1.1.2.2.1) most=true:=Zby (by omega);have b2:∀x:EVTT,Nat.ble (List.length (st.2.2.2.1++[x])) most=true:=λx=>Zby (by simp;omega)
  have b3:∀x:TC,Nat.ble (List.length (st.2.2.2.2++[x])) most=true:=λx=>Zby (by simp;omega)
  have hpb:∀c,Zt6 c=Zgg c:=λ_=>rfl
  unfold tupB;simp only[b1,b2,b3,hpb,Yk,Yh,Yj,Ya];unfold endS;cases Zgg st.1.1<;>rfl
 ·simp only[Zrl,RT.val,e1,e2,hx,Yh,Yw,Yk,Ya];rfl
def ZvJ (b:BRDT) (l:List Int):Bool:=smG b.2.1&&(Nat.ble b.2.2.2.2.2.2.length 100000&&Nat.ble l.length 4000)
theorem ZCV {b:BRDT} {l:List Int} (h:ZvJ b l=true):smG b.2.1=true/\b.2.2.2.2.2.2.length<=100000/\l.length<=4000:=by simpa only[ZvJ,Yb,Yy] using h
def ZO8:En:=Zf ZuX ZpD (λa=>some (ZvJ a.1 a.2)) (λa=>ZdH a.1 (decX a.2))
theorem Zya:Za Tryz.prog 7 ZO8:=ZSA.pure_congr
 (λa h hp=>by
  obtain⟨h1,h2,h3⟩:=ZCV (b:=a.1) (l:=a.2) (by simpa using hp);have hv:=Zx9 a.1 a.2 h1 h2 h3 h.1.2.2.2.1
  simp[ZT3,hv,okB])
 (λa h hp=>by
  obtain⟨h1,h2,h3⟩:=ZCV (b:=a.1) (l:=a.2) (by simpa using hp);have hv:=Zx9 a.1 a.2 h1 h2 h3 h.1.2.2.2.1
  simp only[ZZo,hv,getO])
theorem ZPY {τ:Type} {fl:Bool} (T:τ->RT (Option (Go1 τ))) (mk:Int->τ) (idx:τ->Int) (n:Nat) (hi:∀i,idx (mk i)=i) (hT:∀i:Nat,i<n->(T (mk i)).val=some (.cont (mk ((i+1:Nat):Int)))) (hE:(T (mk n)).val=some (.brk (mk n))) (hn:n<=1000000000):
  runF fl T (λ_=>1000000000000) (mk 0)=some (false,mk n):=by
 obtain⟨r,hr,h1⟩:=ZK (fl:=fl) (t:=T) (fuel:=λ_=>1000000000000)
  (λa=>∃i:Nat,i<=n/\a=mk i) (λa=>n-(idx a).toNat) (λr=>r=(false,mk n))
  (by
   rintro a ⟨i,h,rfl⟩;by_cases hlt:i<n
   ·exact .inl ⟨_,hT i hlt,⟨i+1,hlt,rfl⟩,by simp only[hi];omega⟩
   ·have e:i=n:=by omega
    subst e
    exact .inr (.inl ⟨_,hE,rfl⟩))
  (mk 0) ⟨0,Yr _,rfl⟩ (by simp only[hi];omega)
 rw[h1] at hr;exact hr
theorem ZY3 {l:List α} {i:Nat} (h:i<l.length) (hl:l.length<=1000000000):decide ((i:Int)<iN l.length)=true/\Zh (i:Int) l.length=true/\wrap .i64 ((i:Int)+1)=((i+1:Nat):Int):=by refine⟨by simp only[iN,Le,Yf];omega,ZP.2 ⟨by omega,by omega⟩,?_⟩;rw[wrap_i64 _ (by omega) (by omega)];omega
theorem ZZf (n:Nat):decide ((n:Int)<iN n)=false:=by simp[iN,Le]
theorem ZUQ (l:List PINT) (h:l.length<=1000000000):Zhn l l=true/\ZiO l l=true:=by
 have hr:=ZPY (fl:=true) Zdv (λi=>(l,l,false,iN l.length,i,())) (λa=>a.2.2.2.2.1) l.length (λ_=>rfl)
  (λi hi=>by
   obtain⟨k1,k2,k3⟩:=ZY3 hi h
   simp only[Zdv,RT.val,k1,k2,k3,R.eqf_refl,Ya,Yc,Yh,Yj,Yk])
  (by simp only[Zdv,RT.val,ZZf,Yc]) h
 have hv:(Zfl l l).val=some true:=by simp only[Zfl,RT.val,hr,bne_self_eq_false,okB,getO,Yc,Ya]
 exact⟨by simp only[Zhn,hv,okB],by simp only[ZiO,hv,getO]⟩
theorem ZrY (b:BRDT) (l:List INPT) (hg:smG b.2.1=true) (hm:b.2.2.2.2.2.2.length<=100000) (hl:l.length<=1000):
  (ZdH b l).1.1.length<=1000/\(ZdH b l).1.2.1.length<=1000/\(ZdH b l).1.2.2.1.length<=2001/\(ZdH b l).1.2.2.2.1.length<=2001/\(ZdH b l).1.2.2.2.2.2.1.length<=102000/\(ZdH b l).1.2.2.2.2.2.2.2.2.2.length<=1000:=by
 obtain⟨_,_,h0⟩:=Zyk b hg hm;unfold ZdH;cases hx:(wNew b).2 !=0
 ·have h0:=(h0 (by simpa using hx)).1;have hf:=ZuB b (ZaO b) l (Zck b) 0 h0;rw[Yu] at hf;simp only[Yc];generalize ZeK b (ZaO b) (Zck b) l=st at hf;have ht:=hf.t;have hi:=hf.it;have he:=hf.ev;have hc:=hf.cp;have hmm:=hf.m;have ho:=hf.o;unfold endS;cases Zgg st.1.1
  ·exact⟨by show st.2.1.length<=_;omega,by show st.2.2.1.length<=_;omega,by show st.2.2.2.1.length<=_;omega,by show st.2.2.2.2.length<=_;omega,by show st.1.2.1.length<=_;omega,by show st.1.2.2.2.2.2.length<=_;omega⟩
  ·exact⟨by show st.2.1.length<=_;omega,by show st.2.2.1.length<=_;omega,by show (st.2.2.2.1++[_]).length<=_;simp;omega,by show (st.2.2.2.2++[_]).length<=_;simp;omega,by show st.1.2.1.length<=_;omega,by show st.1.2.2.2.2.2.length<=_;omega⟩
 ·exact⟨Yr _,Yr _,Yr _,Yr _,Yr _,Yr _⟩
theorem ZXS {w a b:Int} {m:Bool} (hw:inR .u16 w) (a0:0<=a) (a1:a<6) (b0:0<=b) (b1:b<5):
  badR (w,u16.wrap (if 65535<i64.wrap (i64.wrap w+R.get (R.int i64) [0,3,15,255,4095,65535] a) then 65535 else i64.wrap (i64.wrap w+R.get (R.int i64) [0,3,15,255,4095,65535] a)),m,R.get (R.int i64) [0,0,1,2,5] b)=false:=by
 rw[ZfV] at hw;obtain⟨x,ex,hx⟩:∃x:Int,R.get (R.int i64) [0,3,15,255,4095,65535] a=x/\0<=x/\x<=65535:=by
  have:a=0\/a=1\/a=2\/a=3\/a=4\/a=5:=by omega
  rcases this with rfl|rfl|rfl|rfl|rfl|rfl<;>exact⟨_,rfl,by decide,by decide⟩
 obtain⟨y,ey,hy⟩:∃y:Int,R.get (R.int i64) [0,0,1,2,5] b=y/\0<=y/\y<=100:=by
  have:b=0\/b=1\/b=2\/b=3\/b=4:=by omega
  rcases this with rfl|rfl|rfl|rfl|rfl<;>exact⟨_,rfl,by decide,by decide⟩
 rw[ex,ey];have w1:wrap .i64 w=w:=wrap_i64 _ (by omega) (by omega);have w2:wrap .i64 (w+x)=w+x:=wrap_i64 _ (by omega) (by omega);rw[w1,w2];have hu:∀z:Int,0<=z->z<=65535->wrap .u16 z=z:=λz h1 h2=>by rw[Zls];omega
 unfold badR;simp only;rw[Yq,Yq];refine⟨?_,YR (by omega),YR (by omega)⟩;by_cases h:65535<w+x
 ·rw[YX h,hu _ (by omega) (by omega)];exact YR (by omega)
 ·rw[Y3 h,hu _ (by omega) (by omega)];exact YR (by omega)
variable {s:List Int×Int}
theorem ZwW (h:NB s k) (hk:k<=500000) (n:Nat) (hn:n<=100):
  ZbZ s (n:Int)=true/\NB (ZT s (n:Int)).2 (k+1+5*n)/\(ZT s (n:Int)).1.length<=n/\∀r∈(ZT s (n:Int)).1,badR r=false:=by
 have hms:=mst;have w0:wrap .i64 ((n:Int)+1)=(n:Int)+1:=wrap_i64 _ (by omega) (by omega);obtain⟨c1,b1,d0,d1⟩:=Zr h (by omega) ((n:Int)+1) (by omega) (by omega);obtain⟨L,N,hs1⟩:∃L N,(L,N)=(Zb s ((n:Int)+1)).2:=⟨_,_,rfl⟩;obtain⟨q,hq⟩:∃q:Nat,(Zb s ((n:Int)+1)).1=(q:Int):=⟨_,(Yab d0).symm⟩;rw[<-hs1] at b1;obtain⟨r,hr,h1,L',N',o,hs',⟨ho,hvv⟩,hR⟩:=ZK (fl:=false) (t:=ZbY) (fuel:=λa=>400)
  (λa=>∃(i:Nat) (L:List Int) (N:Int) (o:List ZS),i<=q/\NB (L,N) (k+1+5*((q-i:Nat):Int))/\(o.length<=q-i/\∀r∈o,badR r=false)/\a=((i:Int),(L,N),o,()))
  (λa=>Int.toNat a.1) (λr=>r.1=false/\∃(L:List Int) (N:Int) (o:List ZS),NB (L,N) (k+1+5*(q:Int))/\(o.length<=q/\∀r∈o,badR r=false)/\r.2=((0:Int),(L,N),o,()))
  (by
   rintro a ⟨i,L,N,o,hi,hs',⟨ho,hv⟩,rfl⟩;cases i with
   |zero=>
    right;left;exact⟨_,by simp only[ZbY,RT.val];rfl,rfl,L,N,o,by simpa using hs',⟨by omega,hv⟩,rfl⟩
   |succ i=>
    left;have d:decide (((i+1:Nat):Int)>0)=true:=Yz (by omega);obtain⟨kw,bw,hwr⟩:=ZEz hs' (by omega);obtain⟨k1,b1,e0,e1⟩:=Zr bw (by omega) 6 (by decide) (by decide);obtain⟨k2,b2,_⟩:=Zr b1 (by omega) 3 (by decide) (by decide);obtain⟨k3,b3,f0,f1⟩:=Zr b2 (by omega) 5 (by decide) (by decide);have r1:Zh (Zb (ZaR (L,N)).2 6).1 6=true:=ZP.2 ⟨e0,e1⟩;have r2:Zh (Zb (Zb (Zb (ZaR (L,N)).2 6).2 3).2 5).1 5=true:=ZP.2 ⟨f0,f1⟩;have hb:∀x:ZS,Nat.ble (o++[x]).length most=true:=λx=>Zby (by simp;omega)
    have w:wrap .i64 (((i+1:Nat):Int)-1)=(i:Int):=by rw[wrap_i64 _ (by omega) (by omega)];omega
    obtain⟨o',ho'⟩:∃o':List ZS,o'=o++[((ZaR (L,N)).1,u16.wrap (if 65535<i64.wrap (i64.wrap (ZaR (L,N)).1+R.get (R.int i64) [0,3,15,255,4095,65535] (Zb (ZaR (L,N)).2 6).1) then 65535 else i64.wrap (i64.wrap (ZaR (L,N)).1+R.get (R.int i64) [0,3,15,255,4095,65535] (Zb (ZaR (L,N)).2 6).1)),decide ((Zb (Zb (ZaR (L,N)).2 6).2 3).1>0),R.get (R.int i64) [0,0,1,2,5] (Zb (Zb (Zb (ZaR (L,N)).2 6).2 3).2 5).1)]:=⟨_,rfl⟩;refine⟨((i:Int),((Zb (Zb (Zb (ZaR (L,N)).2 6).2 3).2 5).2.1,(Zb (Zb (Zb (ZaR (L,N)).2 6).2 3).2 5).2.2),o',()),?_,⟨i,_,_,o',by omega,b3.up (by omega),⟨by rw[ho'];simp;omega,λr hr=>by rw[ho'] at hr;rcases YV.1 hr with hr|hr;exact hv r hr;rw[Y8] at hr;rw[hr];exact ZXS hwr e0 e1 f0 f1⟩,rfl⟩,by simp only;omega⟩
    simp only[ZbY,RT.val,List.length_cons,List.length_nil,Nat.reduceAdd,d,kw,k1,k2,k3,r1,r2,hb,w,ho',Ya,Yh,Yj,Yk,Yx])
  ((q:Int),(L,N),[],()) ⟨q,L,N,[],Ye _,by simpa using b1,⟨by simp,λr hr=>by simp at hr⟩,rfl⟩ (by simp only;omega)
 obtain⟨r1,r2⟩:=r;simp only at h1 hR;subst h1 hR;have hv:(Zeq s (n:Int)).val=some (o,L',N'):=by simp only[Zeq,RT.val,w0,c1,hq,<-hs1,hr,okB,getO,Ya]
 simp only[ZbZ,ZT,hv,okB,getO];exact⟨trivial,hs'.up (by omega),by omega,hvv⟩
theorem ZRv (h:NB s k) (hk:k<=400000):∀r∈(nMap s).1,badR r=false:=by
 obtain⟨c1,b1,l1,hv1⟩:=ZwW h (by omega) 2 (by omega);have c1:ZbZ s 2=true:=c1;have b1:NB (ZT s 2).2 (k+1+5*((2:Nat):Int)):=b1;have l1:(ZT s 2).1.length<=2:=l1;have hv1:∀r∈(ZT s 2).1,badR r=false:=hv1;obtain⟨c2,b2,d0,d1⟩:=Zr b1 (by omega) 3 (by decide) (by decide);have hs:∀x:ZS,Nat.ble ((ZT s 2).1++[x]).length most=true:=λx=>Zby (by have:=mst;simp;omega)
 have hg:∀l:List ZS,Stg.l (newG Zd5 Zd6 l)=l:=λ_=>rfl
 have hv:(ZBo s).val=some ((ZT s 2).1++[(0,65535,true,wrap .i64 (Int.tdiv (Zb (ZT s 2).2 3).1 2))],(Zb (ZT s 2).2 3).2):=by simp only[ZBo,RT.val,hg,c1,c2,hs,Yh,Yj,Yk,Ya]
 simp only[nMap,hv,getO];intro r hr;rcases YV.1 hr with hr|hr
 ·exact hv1 r hr
 ·rw[Y8] at hr;subst hr;have:(Zb (ZT s 2).2 3).1=0\/(Zb (ZT s 2).2 3).1=1\/(Zb (ZT s 2).2 3).1=2:=by omega
  rcases this with e|e|e<;>rw[e]<;>rfl
theorem ZUR (n:List Int):Zci (Zcs (n,0)).1=0:=by
 obtain⟨c1,b1,⟨s1,bs1,hr⟩,hch,hio,l,hl,hi⟩:=Zw5 (ZOa n) (by omega);obtain⟨c2,_,l2⟩:=ZBn bs1 (by omega);have hbad:=ZRv bs1 (by omega);generalize (Zcs (n,0)).1=b at hr hch hio hi;have hg:smG b.2.1=true:=by rw[hr];exact smGb (by omega)
 have hx:ZbM b.2.1=0:=by
  rw[hr];unfold ZbM;have q1:decide (iN (nMap s1).1.length>16)=false:=YR (by simp only[iN,Le];omega);have q2:(nMap s1).1.any badR=false:=by rw[List.any_eq_false];intro r hr;rw[hbad r hr];simp
  rw[q1,q2];rfl
 have hc:smC (normX l)=true:=smCb (by have:=Zeo l;omega);have hvl:vldB (normX l)=true:=Ziz.2 (Zjf l);have q3:(b.1 !=1&&b.1 !=2)=false:=by rcases hch with e|e<;>rw[e]<;>rfl
 have q4:decide (b.2.2.1<0)=false:=YR (by omega);have q5:decide (b.2.2.1>100)=false:=YR (by omega);have hv:(ZfD b).val=some 0:=by unfold ZfD;simp only[RT.val,q3,hg,hx,q4,q5,hi,hc,hvl,Yk,Yh,YaS,Ya,Yc];rfl
 simp only[Zci,hv,getO]
theorem ZP0 (b:BRDT) (l:List INPT) (h:wNew b=(newS b,0)):ZdH b l=(endS (ZaO b) (ZeK b (ZaO b) (Zck b) l),0):=by unfold ZdH;rw[h];rfl
theorem ZZe (s:TC) (st:STT):(endS s st).1=st.2.1/\(endS s st).2.2.2.2=st.1:=by unfold endS;cases Zgg st.1.1<;>exact⟨rfl,rfl⟩
def pinR (p:PINT):Prop:=inR .u16 p.2.1/\inR .u8 p.2.2.1
open Classical in
def runV (b:BRDT) (l:List INPT):RUNT×Int:=if ∀p∈(ZdH b l).1.1,pinR p then ZdH b l else (([],[],[],[],Zrp),0)
def ZO7:En:=Zf ZuX ZpD (λa=>some (ZvJ a.1 a.2)) (λa=>runV a.1 (decX a.2))
theorem ZO6:Za Tryz.prog 7 ZO7:=Zya.pure_pick (by decide) (λa h hp ho=>by
 have:∀p∈(ZdH a.1 (decX a.2)).1.1,pinR p:=λp hp=>⟨((ho.1.1.2 p hp).2).1,((ho.1.1.2 p hp).2).2.1⟩
 show ZdH a.1 (decX a.2)=runV a.1 (decX a.2);unfold runV
 rw[YX this])
theorem ZFH (b:BRDT) (l:List INPT):(runV b l=ZdH b l/\∀p∈(ZdH b l).1.1,pinR p)\/runV b l=(([],[],[],[],Zrp),0):=by
 unfold runV;split
 ·rename_i h;exact .inl ⟨rfl,h⟩
 ·exact .inr rfl
end
end Go.Proofs.YteaflmalcclnoaaGreatDoor
namespace Go.Proofs.YteaflmalcclnoaaGreatDoor
open Go Go.S3 Go.Proofs Go.RowKit Go.Shelf
attribute [local go_sem] Oper.semAt_some
noncomputable section
set_option maxRecDepth 100000 in
set_option maxHeartbeats 2000000 in
theorem ZTI (F:Fence) (n:Nat) (h:F.fn 89) (hro:F.round=none) (a lo hi:Int) (w:World):
  CallsIn F n prog 89 #[.int .i64 a,.int .i64 lo,.int .i64 hi] w λe w'=>e=.returned (.int .i64 (gLim a lo hi))/\w'=w:=by
 refine callsIn_of_wp Tryz.func89 rfl h ?_ hro;simp only[Tryz.ntmps89,Y7,List.length_cons,List.length_nil,Nat.reduceAdd,Nat.reduceSub,Yaj,Array.replicate_zero,Yaq,Yal,List.nil_append,List.cons_append];gi_wp2
 all_goals go_ret
 all_goals refine⟨?_,rfl⟩
 all_goals simp[*,gLim,ZBQ,RT.val]
 all_goals omega
abbrev ZcH (x:ITMT):Array Value:= #[.int .i64 x.1,.int .i64 x.2.1.1,.int .u16 x.2.1.2.1,.int .u8 x.2.1.2.2.1,.int .i64 x.2.1.2.2.2,.int .i64 x.2.2.1,.int .i64 x.2.2.2.1,.bool x.2.2.2.2.1,.bool x.2.2.2.2.2]
set_option maxRecDepth 100000 in
set_option maxHeartbeats 4000000 in
theorem ZXQ (F:Fence) (n:Nat) (h:F.fn 88) (hl:F.fn 89) (hro:F.round=none) (hn:1<=n) (x:ITMT) (w:World):
  CallsIn F n prog 88 #[.agg (ZcH x)] w λe w'=>e=.returned (.tuple #[.int .i64 (gRep x).1,.int .i64 (gRep x).2])/\w'=w.alloc (.cells (ZcH x) 109):=by
 refine callsIn_of_wp Tryz.func88 rfl h ?_ hro;simp only[Tryz.ntmps88,Y7,List.length_cons,List.length_nil,Nat.reduceAdd,Nat.reduceSub,Yaj,Array.replicate_zero,Yaq,Yal,List.nil_append,List.cons_append]
 gi_wp2_with (gi_at_call 89;refine (ZTI F (n-1) hl hro _ _ _ _).mono ?_;rintro e w' ⟨rfl,rfl⟩)
 all_goals go_ret2
 all_goals refine⟨?_,rfl⟩
 all_goals simp[*,gRep,ZHL,RT.val]
def stsC (w m:Nat):List Int:=(List.range m).flatMap λk=>((k+1:Nat):Int)::bif k==1 then List.replicate w 7 else []
theorem Zfc (w m:Nat):stsC w (m+1)=stsC w m++((m+1:Nat):Int)::bif m==1 then List.replicate w 7 else []:=by simp[stsC,List.range_succ]
def stsL (x:ITMT):List Int:=bif x.1 !=1 then List.replicate (gRep x).2.toNat (gRep x).1 else stsC (min x.2.2.1 65536).toNat (gLim x.2.2.2.1 1 (gLim x.2.1.2.2.2 3 6)).toNat
theorem ZJe (w:Nat):∀(m k:Nat),k<=m->(stsC w k).length<=(stsC w m).length
 |0,k,h=>by rw[show k=0 by omega];exact Ye _
 |m+1,k,h=>by
  by_cases e:k=m+1
  ·rw[e];exact Ye _
  ·have:=ZJe w m k (by omega);rw[Zfc,Yd];omega
def ZjQ (W:World) (B:Nat) (x:ITMT):Prop:=W.heap[B]? =some (.cells (ZcH x) 109)
theorem ZjQ.cell {W:World} {B:Nat} {x:ITMT} (h:ZjQ W B x) (i:Nat) (hi:i<9):W.cell? ⟨B,i,none⟩=some ((ZcH x).getD i undef):=by
 unfold ZjQ at h;simp only[World.cell?,h]
 match i,hi with
 |0,_=>rfl
 |1,_=>rfl
 |2,_=>rfl
 |3,_=>rfl
 |4,_=>rfl
 |5,_=>rfl
 |6,_=>rfl
 |7,_=>rfl
 |8,_=>rfl
 |i+9,hi=>omega
def KpB (B:Nat) (W W':World):Prop:=W'.heap[B]? =W.heap[B]?
set_option maxRecDepth 100000 in
set_option maxHeartbeats 8000000 in
theorem ZUK (F:Fence) (n:Nat) (h:F.fn 87) (hr:F.fn 88) (hl:F.fn 89) (hro:F.round=none) (hn:2<=n) (y B N:Nat) (x:ITMT) (J Jx:List Int->World->Prop) (W:World) (hJo:AbidesFrom W.heap.size J)
  (hN:(stsL x).length<=N)
  (hY:∀pre t W1,0<=t->t<=10->J pre W1->pre.length<N->YieldAt F (n-1) prog y #[.int .i64 t] W1 λe W'=>
   (e=.returned (.bool true)/\J (pre++[t]) W'/\KpB B W1 W')\/(e=.returned (.bool false)/\Jx (pre++[t]) W'))
  (hB:ZjQ W B x) (h0:J [] W):
  CallsIn F n prog 87 #[.func (.yield y) #[] #[],.pointer (some ⟨B,0,none⟩)] W λe W'=>(∃v,e=.returned v)/\
   ((∃ys,ys=stsL x/\J ys W')\/(∃pre,True/\Jx pre W')):=by
 refine callsIn_of_wp Tryz.func87 rfl h ?_ hro;simp only[Tryz.ntmps87,Y7,List.length_cons,List.length_nil,Nat.reduceAdd,Nat.reduceSub,Yaj,Array.replicate_zero,Yaq,Yal,List.nil_append,List.cons_append];obtain⟨L,hL⟩:∃L,L=stsL x:=⟨_,rfl⟩;rw[<-hL] at hN|-;have c0:=hB.cell 0 (by omega);have c1:=hB.cell 1 (by omega);have c2:=hB.cell 2 (by omega);have c3:=hB.cell 3 (by omega);have c4:=hB.cell 4 (by omega);have c5:=hB.cell 5 (by omega);have c6:=hB.cell 6 (by omega);have c7:=hB.cell 7 (by omega);have c8:=hB.cell 8 (by omega);simp[ZcH,Array.getD] at c0 c1 c2 c3 c4 c5 c6 c7 c8;have hn1:1<=n:=by omega
 gi_wp2_with (gi_at_call 88;refine (ZXQ F (n-1) hr hl hro (by omega) x _).mono ?_;rintro e w' ⟨rfl,rfl⟩)
 ·have hx:(x.1 !=1)=true:=by assumption
  have eL:stsL x=List.replicate (gRep x).2.toNat (gRep x).1:=by unfold stsL;rw[hx];rfl
  rw[eL] at hL;rw[hL,List.length_replicate] at hN;have hJ1:J [] (W.alloc (.cells (ZcH x) 109)):=hJo _ _ _ none h0 (World.grownBy_alloc W _ none) (λr e=>by cases e);clear hJo h0 hB c0 c1 c2 c3 c4 c5 c6 c7 c8 eL;have htm:0<=(gRep x).2/\(gRep x).2<=65536:=by unfold gRep ZHL;simp only[gLim,ZBQ,RT.val];cases x.1==2<;>cases x.1==3<;>cases x.1==4<;>simp[RT.val]<;>omega
  obtain⟨ht0,ht1⟩:=htm;have hst:0<=(gRep x).1/\(gRep x).1<=10:=by unfold gRep ZHL;cases x.1==2<;>cases x.1==3<;>cases x.1==4<;>simp[RT.val]
  generalize (gRep x).1=st at*;generalize (gRep x).2=tm at*;subst hL;gi_wp2
  gi_loopw [17] (λi wr=>∃k:Nat,k<=tm.toNat/\i=.int .i64 (k:Int)/\J (List.replicate k st) wr) (λi _=>tm.toNat-(intOf i).toNat)
  case atStart=>exact⟨0,Yr _,rfl,hJ1⟩
  case round=>
   obtain⟨k,hk,rfl,hJs⟩:=hrel;by_cases hlt:(k:Int)<tm
   ·obtain⟨fn,tmps,assign,body,hy,hR⟩:=hY _ st wr hst.1 hst.2 hJs (by rw[List.length_replicate];omega);have hb:(k:Int)+1<=65536:=by omega
    have hb0:(0:Int)<=k:=by omega
    gi_wp2
    ·refine hR.mono ?_;rintro e W3 (⟨rfl,hJ3,hk3⟩|⟨rfl,hJx3⟩)
     ·gi_wp2
      go_roundw
      case rel=>exact⟨k+1,by omega,rfl,by rw[List.replicate_succ'];exact hJ3⟩
      case measure=>simp[intOf];omega
     ·gi_wp2
      refine bodyPost_ret (results_none rfl _ _ _) rfl ?_;exact⟨⟨_,rfl⟩,.inr ⟨_,trivial,hJx3⟩⟩
   ·gi_wp2
    refine bodyPost_ret (results_none rfl _ _ _) rfl ?_;have e5:tm.toNat=k:=by omega
    rw[<-e5] at hJs;exact⟨⟨_,rfl⟩,.inl hJs⟩
 ·refine wpIn_mono (Q:=λe a' w'=>e=.normal/\a'={tmps:= #[.func (.yield y) #[] #[],.pointer (some ⟨B,0,none⟩),undef,undef,undef,.int .i64 (gLim x.2.2.2.1 1 (gLim x.2.1.2.2.2 3 6)),undef,undef,.pointer (some ⟨B,0,none⟩),.int .i64 x.1,.bool false,undef,undef,undef,undef,undef,undef,undef,undef,undef,undef,undef,undef,undef,.pointer (some ⟨B,6,none⟩),.int .i64 x.2.2.2.1,.pointer (some ⟨B,1,none⟩),.pointer (some ⟨B,4,none⟩),.int .i64 x.2.1.2.2.2,.int .i64 (gLim x.2.1.2.2.2 3 6),.int .i64 (gLim x.2.2.2.1 1 (gLim x.2.1.2.2.2 3 6)),undef,undef,undef,undef,undef,undef,undef,undef,undef,undef,undef,undef,undef,undef,undef,undef,undef,undef,undef,undef,undef,undef,undef],defers:=[]}/\w'=W.drew) ?reg ?_
  case reg=>
   gi_region_with (gi_at_call 89;refine (ZTI F (n-1) hl hro _ _ _ _).mono ?_;rintro e w' ⟨rfl,rfl⟩)
   all_goals exact⟨rfl,rfl,rfl⟩
  rintro e a' w' ⟨rfl,rfl,rfl⟩;have hx:(x.1 !=1)=false:=by assumption
  have eL:stsL x=stsC (min x.2.2.1 65536).toNat (gLim x.2.2.2.1 1 (gLim x.2.1.2.2.2 3 6)).toNat:=by unfold stsL;rw[hx];rfl
  have hm1:1<=gLim x.2.2.2.1 1 (gLim x.2.1.2.2.2 3 6)/\gLim x.2.2.2.1 1 (gLim x.2.1.2.2.2 3 6)<=6:=by simp only[gLim,ZBQ,RT.val];omega
  dsimp only;rw[eL] at hL;have hJ1:J [] W.drew:=hJo _ _ _ none h0 ⟨rfl,rfl,rfl,Ye _,λ_ _ _=>rfl⟩ (λr e=>by cases e);have hB1:ZjQ W.drew B x:=hB;clear hJo h0 hB c0 c1 c2 c3 c4 c5 c6 c7 c8 eL;generalize gLim x.2.2.2.1 1 (gLim x.2.1.2.2.2 3 6)=g at*;obtain⟨m,rfl⟩:∃m:Nat,g=(m:Int):=⟨g.toNat,by omega⟩;generalize W.drew=W0 at*;rw[Int.toNat_natCast] at hL;generalize hwn:(min x.2.2.1 65536).toNat=wn at*;subst hL;gi_wp2
  gi_loopw [6] (λi wr=>∃k:Nat,k<=m/\i=.int .i64 ((k:Int)+1)/\J (stsC wn k) wr/\ZjQ wr B x) (λi _=>m+1-(intOf i).toNat)
  case atStart=>exact⟨0,Yr _,rfl,by simpa [stsC] using hJ1,hB1⟩
  case round=>
   obtain⟨k,hk,rfl,hJs,hBr⟩:=hrel;by_cases hlt:k<m
   ·have c5:=hBr.cell 5 (by omega);simp[ZcH,Array.getD] at c5;have hlen:∀j:Nat,j<=(bif k==1 then wn else 0)->(stsC wn k++((k+1:Nat):Int)::List.replicate j 7).length<=(stsC wn m).length:=by intro j hj;refine YD ?_ (ZJe wn m (k+1) hlt);rw[Zfc];simp only[Yd,List.length_cons,List.length_replicate];cases hk1:k==1<;>rw[hk1] at hj<;>simp at hj|- <;>omega
    obtain⟨fn,tmps,assign,body,hy,hR⟩:=hY _ ((k:Int)+1) wr (by omega) (by omega) hJs (by have:=hlen 0 (Yr _);simp at this;omega);have hb:(k:Int)+1<=6:=by omega
    have hb0:(0:Int)<=k:=by omega
    gi_wp2
    refine hR.mono ?_;rintro e W3 (⟨rfl,hJ3,hk3⟩|⟨rfl,hJx3⟩)
    ·gi_wp2
     gi_loopw [7] (λi wr=>∃j:Nat,j<=(bif k==1 then wn else 0)/\i=.int .i64 (j:Int)/\J (stsC wn k++((k+1:Nat):Int)::List.replicate j 7) wr/\ZjQ wr B x) (λi _=>wn+1-(intOf i).toNat)
     case atStart=>exact⟨0,Yr _,rfl,by simpa using hJ3,hk3.trans hBr⟩
     case round=>
      obtain⟨j,hj,rfl,hJs,hBr⟩:=hrel;have c5:=hBr.cell 5 (by omega);simp[ZcH,Array.getD] at c5;have hwn0:wn<=65536:=by omega
      have hj65:(j:Int)<=65536:=by cases hq:k==1<;>rw[hq] at hj<;>simp at hj<;>omega
      have hj0:(0:Int)<=j:=by omega
      by_cases hc:k=1/\j<wn
      ·obtain⟨fn,tmps,assign,body,hy,hR⟩:=hY _ 7 wr (by omega) (by omega) hJs (by have:=hlen (j+1) (by simp[hc.1];omega);simp at this|-;omega);have hnext:∀W,J ((stsC wn k++((k+1:Nat):Int)::List.replicate j 7)++[7]) W->J (stsC wn k++((k+1:Nat):Int)::List.replicate (j+1) 7) W:=by intro W h;rw[List.replicate_succ'];simpa using h
       have hj1:j+1<=(bif k==1 then wn else 0):=by simp[hc.1];omega
       gi_wp2
       all_goals first
        |(exfalso;omega)
        |skip
       all_goals
        refine hR.mono ?_;rintro e W5 (⟨rfl,hJ5,hk5⟩|⟨rfl,hJx5⟩)
       all_goals gi_wp2
       all_goals first
        |(refine bodyPost_ret (results_none rfl _ _ _) rfl ?_
          exact⟨⟨_,rfl⟩,.inr ⟨_,trivial,hJx5⟩⟩)
        |(go_roundw
          case rel=>
           simp only[show (k:Int)+1=2 by omega];exact⟨_,_,_,_,_,_,_,_,_,_,_,_,_,_,_,⟨j+1,hj1,rfl,hnext _ hJ5,hk5.trans hBr⟩,rfl⟩
          case measure=>simp[intOf];omega)
      ·gi_wp2
       all_goals first
        |(exfalso;omega)
        |skip
       all_goals
        have hjj:j=bif k==1 then wn else 0:=by
         by_cases hk1:k=1
         ·have:¬j<wn:=λh=>hc ⟨hk1,h⟩
          subst hk1;simp at hj|-;omega
         ·have:(k==1)=false:=by simpa using hk1
          rw[this] at hj|-;exact Nat.le_zero.1 hj
        have hfin:J (stsC wn (k+1)) wr:=by rw[Zfc];rw[hjj] at hJs;cases hk1:k==1<;>rw[hk1] at hJs<;>simpa using hJs
        refine⟨⟨k+1,by omega,by first|rfl|(congr 1;omega),hfin,hBr⟩,?_⟩;simp[intOf];omega
    ·gi_wp2
     refine bodyPost_ret (results_none rfl _ _ _) rfl ?_;exact⟨⟨_,rfl⟩,.inr ⟨_,trivial,hJx3⟩⟩
   ·have hb:(k:Int)<=6:=by omega
    have hb0:(0:Int)<=k:=by omega
    gi_wp2
    refine bodyPost_end (results_none rfl _ _ _) rfl ?_;exact⟨⟨_,rfl⟩,.inl ⟨_,rfl,by rw[show m=k by omega];exact hJs⟩⟩
set_option maxRecDepth 100000 in
set_option maxHeartbeats 2000000 in
theorem ZXJ (F:Fence) (n:Nat) (h:F.fn 31) (hro:F.round=none) (x:ITMT) (w:World):
  CallsIn F n prog 31 #[.agg (ZcH x)] w λe w'=>e=.returned (.func (.func 87) #[] #[.pointer (some ⟨w.heap.size,0,none⟩)])/\w'=w.alloc (.cells (ZcH x) 109):=by
 refine callsIn_of_wp Tryz.func31 rfl h ?_ hro;simp only[Tryz.ntmps31,Y7,List.length_cons,List.length_nil,Nat.reduceAdd,Nat.reduceSub,Yaj,Array.replicate_zero,Yaq,Yal,List.nil_append,List.cons_append];gi_wp2
 go_ret
 exact⟨rfl,rfl⟩
abbrev StT:={t:Int//0<=t/\t<=10}
abbrev stEnc (t:StT):Array Value:= #[.int .i64 t.1]
theorem ZJd (F:Fence) (n:Nat) (h:F.fn 87) (hr:F.fn 88) (hl:F.fn 89) (hro:F.round=none) (hn:2<=n) (B:Nat) (x:ITMT) (w:World) (hBs:B<w.heap.size) (hB:ZjQ w B x):
  SeqStopsK F n prog 87 #[.pointer (some ⟨B,0,none⟩)] stEnc (KpB B) (λys=>ys.map (·.1)=stsL x) (λ_=>True) (stsL x).length w:=λy J Jx W hW hJ _ hY h0=>by
 refine (ZUK F n h hr hl hro hn y B (stsL x).length x (λl W=>∃l':List StT,l'.map (·.1)=l/\J l' W) (λl W=>∃l':List StT,Jx l' W) W ?_ (Ye _) ?_ ?_ ⟨[],rfl,h0⟩).mono ?_
 ·rintro l A C row ⟨l',e,hl'⟩ hg hr';exact⟨l',e,hJ l' A C row hl' hg hr'⟩
 ·rintro pre t W1 t0 t1 ⟨l',e,hl'⟩ hlen;have hlen':l'.length<(stsL x).length:=by rw[<-e,List.length_map] at hlen;exact hlen
  obtain⟨fn,tmps,assign,body,hy,hR⟩:=hY l' ⟨t,t0,t1⟩ W1 hl' hlen';refine⟨fn,tmps,assign,body,hy,hR.mono ?_⟩;rintro e' W' (⟨e1,e2,e3⟩|⟨e1,e2⟩)
  ·exact .inl ⟨e1,⟨l'++[⟨t,t0,t1⟩],by simp[e],e2⟩,e3⟩
  ·exact .inr ⟨e1,_,e2⟩
 ·exact (hW.block B hBs).trans hB
 ·rintro e W' ⟨hv,(⟨ys,e1,l',e2,e3⟩|⟨pre,_,l',e3⟩)⟩
  ·exact⟨hv,.inl ⟨l',e2.trans e1,e3⟩⟩
  ·exact⟨hv,.inr ⟨l',trivial,e3⟩⟩
end
end Go.Proofs.YteaflmalcclnoaaGreatDoor
namespace Go.Proofs.YteaflmalcclnoaaGreatDoor
open Go Go.S3 Go.Proofs
noncomputable section
def Zr4 (i:Nat):Code->Array Oper
 | .seq a b=>let r:=Zr4 i a;bif r.size==0 then Zr4 i b else r
 | .cond _ a b=>let r:=Zr4 i a;bif r.size==0 then Zr4 i b else r
 | .block _ c=>Zr4 i c
 | .loop c=>Zr4 i c
 | .rangeFunc _ _ a b=>let r:=Zr4 i a;bif r.size==0 then Zr4 i b else r
 | .region j A _=>bif j==i then A else #[]
 |_=> #[]
def reg7:Array Oper:=Zr4 7 (Tryz.f11.body.getD .skip)
def stgP (L:List PINT) (v:Nat):Stg:={r:=ZcS,T:=99,l:=L,ver:=v,fzn:=false,ffz:=false,lit:=false,ub:=0}
def memB (chip:Int) (L:List PINT) (x:ITMT) (v:Nat):Mem:=⟨[[.int false .i64 chip],[.tip 0 v],Zdu.enc x],[stgP L v]⟩
def stB (chip t:Int) (L:List PINT) (x:ITMT):St:={Sl:=[.w .junk,.w .junk,.w (.one (.loc 0 0)),.w .junk,.w .junk,.w (.one (.loc 1 0)),.w .junk,.w (.one (.loc 2 0)),.w (.one (.int false .i64 t)),.w .junk,.w .junk,.w .junk,.w .junk,.w .junk,.w .junk,.w .junk,.w .junk,.w .junk,.w .junk,.w .junk,.w .junk,.w .junk,.w .junk,.w .junk,.w .junk,.w .junk,.w .junk,.w .junk,.w .junk,.w .junk,.w .junk,.w .junk,.w .junk,.w .junk,.w .junk,.w .junk,.w .junk,.w .junk,.w .junk],mem:=memB chip L x 0,dirty:=0,bd:=[],sd:=[]}
def envB:Env:=envX Tryz.prog [(32,ZDY)] [] 15 8
def outB (chip t:Int) (L:List PINT) (x:ITMT):RT Out:=ZcN envB true (Zdq reg7.toList []) reg7.toList reg7.toList 0 false [] [] (stB chip t L x)
def pinP (chip:Int) (x:ITMT) (t:Int):PINT:=ZGi chip (t,x.2.1,x.2.1.2.2.1,x.2.1.2.1,x.2.2.2.2.1,x.2.2.2.2.2)
def brT:RT Out->RT Out
 | .br _ t _=>t
 |t=>t
def brF:RT Out->RT Out
 | .br _ _ t=>t
 |t=>t
theorem ZZl {t:RT Out} {b:Bool} (e:t=.br b (brT t) (brF t)) (h:b=true):t.val=(brT t).val:=by subst h;exact (congrArg RT.val e).trans rfl
theorem ZWi (chip t L x):outB chip t L x=.br (Nat.ble (L++[pinP chip x t]).length most) (brT (outB chip t L x)) (brF (outB chip t L x)):=by kernel_rfl
theorem ZYG (chip t L x):(brT (outB chip t L x)).val.k=.normal:=by kernel_rfl
theorem ZYF (chip t L x):(brT (outB chip t L x)).val.s.mem=memB chip (L++[pinP chip x t]) x 1:=by kernel_rfl
theorem ZWh (chip t L x) (h:(L++[pinP chip x t]).length<=most):(outB chip t L x).val.k=.normal/\(outB chip t L x).val.s.mem=memB chip (L++[pinP chip x t]) x 1:=by have e:(outB chip t L x).val=(brT (outB chip t L x)).val:=ZZl (ZWi chip t L x) (by rw[Yy];exact h);rw[e];exact⟨ZYG chip t L x,ZYF chip t L x⟩
theorem lex7:lexL reg7.toList=true:=by kernel_rfl
theorem ZYH:∀(j:Nat) (o:Oper),reg7[j]? =some o->∀c,o.op≠ .defer c:=by
 have h:reg7.toList.all (λo=>match o.op with
  | .defer _=>false
  |_=>true)=true:=by kernel_rfl
 intro j o ho c e;have:=YU.1 h o (by rw[Yv] at ho;obtain⟨h1,h2⟩:=ho;rw[<-h2];simp);rw[e] at this;simp at this
theorem ZYM:Tryz.prog.follows .mixedOrders=true:=by kernel_rfl
end
open Go Go.S3 Go.Proofs Go.RowKit
noncomputable section
structure Xc (n₀:Nat) (ex:Nat->Prop) (fz:Nat->Nat->Option Value) (y:Ctx):Prop where
 own:y.own=λk=>n₀<=k/\¬ex k
 fzl:∀b o v,fz b o=some v->y.fz b o=some v
 fzn:∀b o v,y.fz b o=some v->fz b o=some v\/n₀<=b
def Xw (n₀:Nat) (ex:Nat->Prop) (fz:Nat->Nat->Option Value) (M:List Nat) (m:Mem) (W:World):Prop:=∃y:Ctx,Xc n₀ ex fz y/\y.M=M/\MK y m W
variable {n₀:Nat} {ex:Nat->Prop} {fz:Nat->Nat->Option Value} {M:List Nat} {m:Mem} {W W':World}
theorem Xw.grown {row:Option Nat} (h:Xw n₀ ex fz M m W) (hg:W.grownBy W' row) (hr:∀r,row=some r->∃o:Obj,W.heap[r]? =some o/\o.isCells=false):Xw n₀ ex fz M m W':=by obtain⟨y,h1,h2,h3⟩:=h;exact⟨y,h1,h2,h3.grown hg hr⟩
variable {y:Ctx}
theorem ZMM (h:MK y m W) (P:Nat->Prop) (hf:∀k,W.heap.size<=k->P k) (hm:∀b p,nth y.M b=some p->P p) (hs:∀i s p cap,nth y.S i=some s->s.blk=some (p,cap)->P p):MK {y with own:=P} m W:=
 ⟨hf,h.fz,h.ml,λb l p h1 h2=>by
  obtain⟨C,T,e1,e2⟩:=h.box b l p h1 h2;exact⟨C,T,e1,RL.same (x:=y) (y:={y with own:=P}) rfl rfl rfl e2⟩,λb p hp=>⟨hm b p hp,(h.mown b p hp).2⟩,h.inj,h.sl,
  λi g s h1 h2=>(h.stg i g s h1 h2).ctx (λ_ _ _ h=>h) (λ_ _ _ _=>rfl),λi s p cap h1 h2=>⟨hs i s p cap h1 h2,(h.sown i s p cap h1 h2).2⟩,h.sinj⟩
theorem Xw.block (h:Xw n₀ (λ_=>False) fz M m W) (o:Obj):Xw n₀ (λk=>k=W.heap.size) fz M m (W.alloc o):=by
 obtain⟨y,h1,h2,h3⟩:=h;have h4:=h3.old (ZI.alloc W o);have ho:∀k,y.own k->n₀<=k:=λk hk=>by rw[h1.own] at hk;exact hk.1
 refine⟨{y with own:=λk=>n₀<=k/\¬k=W.heap.size},⟨rfl,h1.fzl,h1.fzn⟩,h2,ZMM h4 _ (λk hk=> ?_) (λb p hp=> ?_) (λi s p cap h5 h6=> ?_)⟩
 ·rw[World.size_alloc] at hk;exact⟨ho k (h3.fresh k (by omega)),by omega⟩
 ·exact⟨ho p (h3.mown b p hp).1,by have:=h3.M_lt hp;omega⟩
 ·exact⟨ho p (h3.sown i s p cap h5 h6).1,by have:=h3.S_lt h5 h6;omega⟩
theorem Xw.all (h:Xw n₀ ex fz M m W):Xw n₀ (λ_=>False) fz M m W:=by
 obtain⟨y,h1,h2,h3⟩:=h;have ho:∀k,y.own k->n₀<=k/\¬False:=λk hk=>by rw[h1.own] at hk;exact⟨hk.1,id⟩
 exact⟨{y with own:=λk=>n₀<=k/\¬False},⟨rfl,h1.fzl,h1.fzn⟩,h2,ZMM h3 _ (λk hk=>ho k (h3.fresh k hk)) (λb p hp=>ho p (h3.mown b p hp).1) (λi s p cap h5 h6=>ho p (h3.sown i s p cap h5 h6).1)⟩
theorem Xw.box (h:Xw n₀ ex fz M m W) {l:List A} {C:List Value} (T:TypeId) (hl:∀y:Ctx,RL y l C):Xw n₀ ex fz (M++[W.heap.size]) {m with Bx:=m.Bx++[l]} (W.alloc (.cells C.toArray T)):=by obtain⟨y,h1,h2,h3⟩:=h;exact⟨{y with M:=y.M++[W.heap.size]},⟨h1.own,h1.fzl,h1.fzn⟩,by show y.M++_=_;rw[h2],(Zjh h3 T (hl y)).1⟩
theorem nth3 {l:List Nat} {a b c:Nat} (h:l.length=3) (h0:nth l 0=some a) (h1:nth l 1=some b) (h2:nth l 2=some c):l=[a,b,c]:=by
 match l,h with
 |[x,y,z],_=>
  simp only[nth,oinj] at h0 h1 h2;rw[h0,h1,h2]
variable {chip:Int} {L:List PINT} {x:ITMT}
theorem ZXP (h:MK y (memB chip L x 1) W):∃S',MK {y with S:=S'} (memB chip L x 0) W:=by
 obtain⟨s,hs⟩:∃s,y.S=[s]:=by
  have:=h.sl
  match hy:y.S,this with
  |[s],_=>exact⟨s,rfl⟩
  |[],e=>simp[memB] at e
  |_::_::_,e=>simp[memB] at e
 have hs0:nth y.S 0=some s:=by rw[hs];rfl
 have hle:FzLe y {y with S:=[{s with ver:=0}]}:=λ_ _ _ e=>e
 have hst:=h.stg 0 (stgP L 1) s rfl hs0;refine⟨[{s with ver:=0}],h.fresh,h.fz,h.ml,λb l p h1 h2=> ?_,h.mown,h.inj,rfl,λi g s1 h1 h2=> ?_,λi s1 p cap h1 h2=> ?_,λi i' s1 s2 p c c' h1 h2 h3 h4=> ?_⟩
 ·match b,h1 with
  |0,h1=>
   simp only[memB,nth,oinj] at h1;subst h1;obtain⟨C,T,e1,e2⟩:=h.box 0 _ p rfl h2;exact⟨C,T,e1,RL.plain hle (λa ha=>by simp at ha;subst ha;rfl) e2⟩
  |1,h1=>
   simp only[memB,nth,oinj] at h1;subst h1;obtain⟨C,T,e1,e2⟩:=h.box 1 _ p rfl h2;refine⟨C,T,e1,?_⟩
   match C,e2 with
   |[v],e2=>
    have e3:RA y (.tip 0 1) v:=e2.1;cases e3 with
    |tip _ _ _ s' _ hs' hv hval hat=>
     rw[hs0] at hs';cases hs';exact⟨.tip _ _ _ {s with ver:=0} _ rfl (Ye _) (λ_=>hval hst.ver) hat,Tv⟩
   |[],e2=>exact e2.elim
   |_::_::_,e2=>exact e2.2.elim
  |2,h1=>
   simp only[memB,nth,oinj] at h1;subst h1;obtain⟨C,T,e1,e2⟩:=h.box 2 _ p rfl h2;exact⟨C,T,e1,RL.plain hle (R.enc_plain _ _) e2⟩
  |b+3,h1=>simp[memB,nth] at h1
 ·match i,h1,h2 with
  |0,h1,h2=>
   simp only[memB,nth,oinj] at h1 h2;subst h1;subst h2;exact⟨rfl,hst.n,hst.wd,hst.nil,hst.row,hst.fzn,hst.ffz,hst.ub⟩
  |i+1,h1,_=>simp[memB,nth] at h1
 ·match i,h1 with
  |0,h1=>
   simp only[nth,oinj] at h1;subst h1;exact h.sown 0 s p cap hs0 h2
  |i+1,h1=>simp[nth] at h1
 ·match i,i',h1,h2 with
  |0,0,_,_=>rfl
  |i+1,_,h1,_=>simp[nth] at h1
  |0,i'+1,_,h2=>simp[nth] at h2
set_option maxHeartbeats 1000000 in
theorem ZXO {t:Int} {pc po px:Nat} (ht:inR .i64 t) (hlen:(L++[pinP chip x t]).length<=most) (h:Xw n₀ ex fz [pc,po,px] (memB chip L x 0) W) {a:Act} (ha:a.defers=[]) (hs:a.tmps.size=39)
  (h2:a.tmps.getD 2 undef=.pointer (some ⟨pc,0,none⟩)) (h5:a.tmps.getD 5 undef=.pointer (some ⟨po,0,none⟩)) (h7:a.tmps.getD 7 undef=.pointer (some ⟨px,0,none⟩)) (h8:a.tmps.getD 8 undef=.int .i64 t)
  {l n:Nat} {Q:Exit->Act->World->Prop} (hQ:¬LetsOut Q) (hK:∀a' W',Xw n₀ ex fz [pc,po,px] (memB chip (L++[pinP chip x t]) x 0) W'->W.heap.size<=W'.heap.size->(∀k,(¬n₀<=k\/ex k\/∃o:Obj,W.heap[k]? =some o/\o.isCells=false)->W'.heap[k]? =W.heap[k]?)->
   W'.os=W.os->W'.tape=W.tape->W'.output=W.output->Q .normal a' W'):(Code.region 7 reg7 true).wpIn (Fence.wide.inRound l) n Tryz.prog Q a W:=by
 obtain⟨y,hc,hM,hm⟩:=h;have hmL:=hm.least;have hrel:RH (y.least W) W (y.least W) (stB chip t L x) a W:=by
  refine⟨⟨⟨by rw[hs];rfl,λi v hv=> ?_⟩,hmL,ha⟩,Ext.refl _,Step.refl _ _⟩;have hM':(y.least W).M=[pc,po,px]:=hM
  match i,hv with
  |0,hv=>cases hv;trivial
  |1,hv=>cases hv;trivial
  |2,hv=>cases hv;rw[h2];exact RA.loc _ _ _ _ (by rw[hM'];rfl)
  |3,hv=>cases hv;trivial
  |4,hv=>cases hv;trivial
  |5,hv=>cases hv;rw[h5];exact RA.loc _ _ _ _ (by rw[hM'];rfl)
  |6,hv=>cases hv;trivial
  |7,hv=>cases hv;rw[h7];exact RA.loc _ _ _ _ (by rw[hM'];rfl)
  |8,hv=>cases hv;rw[h8];exact RA.int _ _ _ _ ht
  |i+9,hv=>
   have:v=.w .junk:=by
    have hmem:v∈(List.replicate 30 (V.w .junk)):=by have:=Zbd (l:=List.replicate 30 (V.w .junk)) (n:=i) (a:=v) hv;exact this
    exact (List.mem_replicate.1 hmem).2
   subst this;trivial
 have hev:=ZWh chip t L x hlen;have hst:Zfd (stB chip t L x) (outB chip t L x).val=(outB chip t L x).val:=by unfold Zfd;rw[hev.1]
 refine ZBV (E:=envB) (ZaT (l:=[(32,ZDY)]) ⟨ZDX,Tv⟩ [] 15 8) (chg:=true) ZYM lex7 ZYH hQ hrel ?_;show Hold _ _ _ _ (Zfd (stB chip t L x) (outB chip t L x).val);rw[hst];intro x' a' w' hr' _;rw[hev.1];have hmm:=hr'.r.m;rw[hev.2] at hmm;have hown:∀k,W.heap.size<=k->y.own k:=hm.fresh;have hmost:=hmm.most hr'.e hm.fresh (λb p hp=>(hm.mown b p hp).1) (λi s p cap e1 e2=>(hm.sown i s p cap e1 e2).1) hr'.t.size;obtain⟨S',hret⟩:=ZXP hmost;have hM1:∀b p,nth [pc,po,px] b=some p->nth x'.M b=some p:=λb p hp=>hr'.e.M b p (by show nth y.M b=some p;rw[hM];exact hp)
 have hM2:x'.M=[pc,po,px]:=nth3 (by have:=hmm.ml;simpa [memB] using this) (hM1 0 _ rfl) (hM1 1 _ rfl) (hM1 2 _ rfl);refine hK a' w' ⟨{x' with own:=y.own,S:=S'},⟨hc.own,λb o v e=>hr'.e.fz b o v (hc.fzl b o v e),λb o v e=> ?_⟩,hM2,hret⟩ hr'.t.size (λk hk=>hr'.t.block k λhl=> ?_) hr'.t.os hr'.t.tape hr'.t.output
 ·rcases hr'.e.new b o v e with e|e
  ·exact hc.fzn b o v e
  ·have:y.own b:=by
    rcases e with e|⟨b',e⟩|⟨i,s,cap,e1,e2⟩
    ·exact hm.fresh b e
    ·exact (hm.mown b' b e).1
    ·exact (hm.sown i s b cap e1 e2).1
   rw[hc.own] at this;exact .inr this.1
 ·have hy:y.own k:=by
   rcases hl with e|⟨b',e⟩|⟨i,s,cap,e1,e2⟩
   ·exact hm.fresh k e
   ·exact (hm.mown b' k e).1
   ·exact (hm.sown i s k cap e1 e2).1
  rw[hc.own] at hy;rcases hk with hk|hk|⟨o,ho,hn⟩
  ·exact hk hy.1
  ·exact hy.2 hk
  ·rcases hm.least_cells hl with e|⟨o',ho',hn'⟩
   ·have:=(Yv.1 ho).1;omega
   ·rw[ho] at ho';cases ho';rw[hn] at hn';cases hn'
end
open Go Go.S3 Go.Proofs Go.RowKit
noncomputable section
variable {n₀:Nat} {ex:Nat->Prop} {fz:Nat->Nat->Option Value} {M:List Nat} {m:Mem} {W W':World}
def memA (chip:Int) (L:List PINT):Mem:=⟨[[.int false .i64 chip],[.tip 0 0]],[stgP L 0]⟩
variable {chip:Int}
theorem init7 {x:Ctx} {m:Mem} {w:World} (hm:MK x m w) (hc:inR .i64 chip) (T T':TypeId):
  Xw w.heap.size (λ_=>False) x.fz [w.heap.size,w.heap.size+1] (memA chip []) ((w.alloc (.cells #[.int .i64 chip] T)).alloc (.cells #[.slice none 0 0] T')):=by
 have h0:=Zij hm;have hj:=h0.joinS (g:=stgP [] 0) (s:=⟨none,none,0,ZcS.wid,0,0⟩) (λp cap h=>by simp at h) ⟨rfl,rfl,rfl,λ_=>⟨rfl,rfl⟩,λp cap h=>by simp at h,λ_=>rfl,λh=>by simp[stgP] at h,λh=>by simp[stgP] at h⟩;have h1:=Zjh hj.1 (l:=[.int false .i64 chip]) (C:=[.int .i64 chip]) T ⟨.int _ _ _ _ hc,Tv⟩;have h2:=Zjh h1.1 (l:=[.tip 0 0]) (C:=[.slice none 0 0]) T' ⟨.tip _ _ _ ⟨none,none,0,ZcS.wid,0,0⟩ _ rfl (Ye _) (λ_=>rfl) trivial,Tv⟩;have e:(w.alloc (.cells #[.int .i64 chip] T)).heap.size=w.heap.size+1:=World.size_alloc _ _;have key:=h2.1;refine⟨{own:=λk=>w.heap.size<=k/\¬False,M:=[w.heap.size,w.heap.size+1],S:=[⟨none,none,0,ZcS.wid,0,0⟩],fz:=x.fz},⟨rfl,λ_ _ _ h=>h,λ_ _ _ h=>.inl h⟩,rfl,?_⟩;have k2:=ZMM key (λk=>w.heap.size<=k/\¬False) (λk hk=>⟨key.fresh k hk,id⟩) (λb p hp=>⟨(key.mown b p hp).1,id⟩) (λi s p cap h5 h6=>⟨(key.sown i s p cap h5 h6).1,id⟩);have hM:([]++[w.heap.size])++[(w.alloc (.cells #[.int .i64 chip] T)).heap.size]=[w.heap.size,w.heap.size+1]:=by rw[e];rfl
 exact hM▸k2
variable {x:ITMT}
theorem ZY0 (h:Zdu.ok x) (y:Ctx):RL y (Zdu.enc x) [.int .i64 x.1,.int .i64 x.2.1.1,.int .u16 x.2.1.2.1,.int .u8 x.2.1.2.2.1,.int .i64 x.2.1.2.2.2,.int .i64 x.2.2.1,.int .i64 x.2.2.2.1,.bool x.2.2.2.2.1,.bool x.2.2.2.2.2]:=by obtain⟨h1,⟨h2,h3,h4,h5⟩,h6,h7,_⟩:=h;exact⟨.int _ _ _ _ h1,.int _ _ _ _ h2,.int _ _ _ _ h3,.int _ _ _ _ h4,.int _ _ _ _ h5,.int _ _ _ _ h6,.int _ _ _ _ h7,.bool _ _ _,.bool _ _ _,Tv⟩
theorem Xw.item {b0 b1:List A} {st:List Stg} (h:Xw n₀ ex fz M ⟨[b0,b1],st⟩ W) (hx:Zdu.ok x) (T:TypeId):Xw n₀ ex fz (M++[W.heap.size]) ⟨[b0,b1,Zdu.enc x],st⟩ (W.alloc (.cells (ZcH x) T)):=
 h.box T (ZY0 hx)
variable {L:List PINT} {pc po:Nat}
theorem Xw.drop {px:Nat} (h:Xw n₀ ex fz [pc,po,px] (memB chip L x 0) W):Xw n₀ ex fz [pc,po] (memA chip L) W:=by
 obtain⟨y,h1,h2,h3⟩:=h;have hS:Z0 1 y.S=y.S:=by
  have:=h3.sl
  match hy:y.S,this with
  |[s],_=>rfl
  |[],e=>simp[memB] at e
  |_::_::_,e=>simp[memB] at e
 have hc:=h3.cut 2 1 (λb l hl a ha v hv=>by
  match b,hl with
  |0,hl=>
   simp only[memB,Z0,nth,oinj] at hl;subst hl;simp only[Y8] at ha;subst ha;cases hv;exact .int _ _ _ _ (by assumption)
  |1,hl=>
   simp only[memB,Z0,nth,oinj] at hl;subst hl;simp only[Y8] at ha;subst ha;cases hv with
   |tip _ _ _ s _ hs hv hval hat=>exact .tip _ _ _ s _ (by rw[hS];exact hs) hv hval hat
  |b+2,hl=>simp[memB,Z0,nth] at hl)
 exact⟨{y with M:=Z0 2 y.M,S:=Z0 1 y.S},⟨h1.own,h1.fzl,h1.fzn⟩,by show Z0 2 y.M=_;rw[h2];rfl,hc⟩
theorem Xw.out (h:Xw n₀ ex fz [pc,po] (memA chip L) W):∃y s,Xc n₀ ex fz y/\y.M=[pc,po]/\y.S=[s]/\MK y (memA chip L) W/\W.cell? ⟨po,0,none⟩=some (tipVal s)/\s.ver=0:=by
 obtain⟨y,h1,h2,h3⟩:=h;obtain⟨s,hs⟩:∃s,y.S=[s]:=by
  have:=h3.sl
  match hy:y.S,this with
  |[s],_=>exact⟨s,rfl⟩
  |[],e=>simp[memA] at e
  |_::_::_,e=>simp[memA] at e
 have hs0:nth y.S 0=some s:=by rw[hs];rfl
 have hst:=h3.stg 0 (stgP L 0) s rfl hs0;obtain⟨C,T,e1,e2⟩:=h3.box 1 [.tip 0 0] po rfl (by rw[h2];rfl);refine⟨y,s,h1,h2,hs,h3,?_,hst.ver⟩
 match C,e2 with
 |[v],e2=>
  have e3:RA y (.tip 0 0) v:=e2.1;cases e3 with
  |tip _ _ _ s' _ hs' hv hval hat=>
   rw[hs0] at hs';cases hs';have:=hval hst.ver;subst this;simp only[World.cell?,e1];rfl
 |[],e2=>exact e2.elim
 |_::_::_,e2=>exact e2.2.elim
def expP (chip:Int) (l:List ITMT):List PINT:=l.flatMap λy=>(stsL y).map (pinP chip y)
theorem ZOg (chip:Int) (l:List ITMT) (y:ITMT):expP chip (l++[y])=expP chip l++(stsL y).map (pinP chip y):=by simp[expP]
theorem ZW0 (chip:Int) (a b:List ITMT):(expP chip a).length<=(expP chip (a++b)).length:=by simp[expP]
def ZZr (fz:Nat->Nat->Option Value) (sv:Value) (l:List ITMT):Prop:=
 (∃a cap,sv=.slice a 0 cap/\l=[])\/∃b off cap,sv=.slice (some ⟨b,off,none⟩) l.length cap/\l.length<=maxLen/\
  ∀j x,l[j]? =some x->∀i,i<9->fz b (off+j*9+i)=some ((ZcH x).getD i undef)
theorem heldI {x:Ctx} {l:List ITMT} {v:Value} {lit full nn:Bool} (h:RA x (.lst Zdu lit full nn l) v):ZZr x.fz v l:=by
 cases h with
 |lst0 _ _ _ _ _ _ a cap h1 _ _ _=>exact .inl ⟨a,cap,rfl,h1⟩
 |lst _ _ _ _ _ _ p o cap c h0 hf hcap hml hz hr=>
  refine .inr ⟨p,o,cap,rfl,hml,λj y hy i hi=> ?_⟩;have hj:j<List.length (α:=ITMT) l:=(YE.1 hy).1;have hel:elN Zdu l j=Zdu.enc y:=by
   unfold elN;have:List.getD (α:=ITMT) l j Zdu.Df=y:=by rw[Yl,hy];rfl
   rw[this]
  have key:∀i a,nth (Zdu.enc y) i=some a->x.fz p (o+j*9+i)=some (c j i)/\RA x.bare a (c j i):=λi a ha=>⟨hz j i a hj (by rw[hel];exact ha),hr j i a hj (by rw[hel];exact ha)⟩
  match i,hi with
  |0,_=>obtain⟨k1,k2⟩:=key 0 _ rfl;generalize c j 0=u at*;cases k2;exact k1
  |1,_=>obtain⟨k1,k2⟩:=key 1 _ rfl;generalize c j 1=u at*;cases k2;exact k1
  |2,_=>obtain⟨k1,k2⟩:=key 2 _ rfl;generalize c j 2=u at*;cases k2;exact k1
  |3,_=>obtain⟨k1,k2⟩:=key 3 _ rfl;generalize c j 3=u at*;cases k2;exact k1
  |4,_=>obtain⟨k1,k2⟩:=key 4 _ rfl;generalize c j 4=u at*;cases k2;exact k1
  |5,_=>obtain⟨k1,k2⟩:=key 5 _ rfl;generalize c j 5=u at*;cases k2;exact k1
  |6,_=>obtain⟨k1,k2⟩:=key 6 _ rfl;generalize c j 6=u at*;cases k2;exact k1
  |7,_=>obtain⟨k1,k2⟩:=key 7 _ rfl;generalize c j 7=u at*;cases k2;exact k1
  |8,_=>obtain⟨k1,k2⟩:=key 8 _ rfl;generalize c j 8=u at*;cases k2;exact k1
def mark (D:Nat):Deferred:={target:=.collected D,args:= #[]}
theorem Zjp {F:Fence} {n:Nat} {P:Program} {fn:Func} {tmps:Array Value} {R:Ending->World->Prop} (J:World->Prop)
  (hJ:∀W D,n₀<=D->J W->W.heap[D]? =some (.deferred (some []))->J (W.putObj D (.deferred none))) (hfin:∀W,J W->LeavesIn F n P fn tmps R [] .returning W):
  ∀(ds:List Nat) (W:World),ds.Nodup->(∀D∈ds,n₀<=D/\W.heap[D]? =some (.deferred (some [])))->J W->LeavesInM F n P fn tmps R (ds.map mark) .returning W
 |[],W,_,_,h=>hfin W h
 |D::ds,W,hn,hd,h=>by
  obtain⟨hD0,hD⟩:=hd D (by simp);refine⟨by simp,.inl ⟨D,_,rfl,run_takeDeferred hD,Zjp J hJ hfin ds _ (List.nodup_cons.1 hn).2 (λD' h'=> ?_) (hJ W D hD0 h hD)⟩⟩;have hne:D'≠D:=λe=>(List.nodup_cons.1 hn).1 (e▸h')
  exact⟨(hd D' (by simp[h'])).1,(World.putObj_heap_other hne).trans (hd D' (by simp[h'])).2⟩
theorem Zh9 {w0:World} (h:Zb5 w0 W) {row:Option Nat} (hg:W.grownBy W' row) (hr:∀r,row=some r->w0.heap.size<=r):Zb5 w0 W':=
 ⟨⟨YD h.1.1 hg.size,λk hk=>(hg.block k (YaL hk h.1.1) λe=>by have:=hr k e.symm;omega).trans (h.1.2 k hk)⟩,hg.os.trans h.2.1,hg.tape.trans h.2.2.1,hg.output.trans h.2.2.2⟩
end
open Go Go.S3 Go.Proofs Go.RowKit Go.Shelf
attribute [local go_sem] Oper.semAt_some
noncomputable section
structure Rd (w0:World) (fz:Nat->Nat->Option Value) (chip:Int) (ds:List Nat) (L:List PINT) (W:World):Prop where
 x:Xw w0.heap.size (λ_=>False) fz [w0.heap.size,w0.heap.size+1] (memA chip L) W
 nd:ds.Nodup
 mks:∀D∈ds,w0.heap.size<=D/\W.heap[D]? =some (.deferred (some []))
 s:Zb5 w0 W
set_option maxRecDepth 100000 in
set_option maxHeartbeats 8000000 in
theorem ZZc (n:Nat) (hn:5<=n) (sv:Value) (chip:Int) (l:List ITMT) (fz:Nat->Nat->Option Value) (hl:ZZr fz sv l) (hok:∀y∈l,Zdu.ok y) (hm:(expP chip l).length<=most) (w0:World)
  (hx:∀T T',Xw w0.heap.size (λ_=>False) fz [w0.heap.size,w0.heap.size+1] (memA chip []) ((w0.alloc (.cells #[.int .i64 chip] T)).alloc (.cells #[.slice none 0 0] T'))):
  CallsIn Fence.wide n Tryz.prog 11 #[.int .i64 chip,sv] w0 λe W'=>∃s y,e=.returned (tipVal s)/\s.ver=0/\y.M=[w0.heap.size,w0.heap.size+1]/\y.S=[s]/\Xc w0.heap.size (λ_=>False) fz y/\MK y (memA chip (expP chip l)) W'/\Zb5 w0 W':=by
 have h1:1<=n:=by omega
 obtain⟨aa,cap,hsv⟩:∃aa cap,sv=.slice aa l.length cap:=by
  rcases hl with ⟨a,cap,e,e2⟩|⟨b,off,cap,e,_⟩
  ·exact⟨a,cap,by rw[e,e2];rfl⟩
  ·exact⟨_,cap,e⟩
 subst hsv;have hlm:l.length<=maxLen:=by
  rcases hl with ⟨a,cap,e,e2⟩|⟨b,off,cap,e,h,_⟩
  ·rw[e2];exact Yr _
  ·exact h
 refine callsIn_of_wp_marks Tryz.func11 rfl trivial ?_ rfl;simp only[Tryz.ntmps11,Y7,List.length_cons,List.length_nil,Nat.reduceAdd,Nat.reduceSub,Yaj,Array.replicate_zero,Yaq,Yal,List.nil_append,List.cons_append];gi_wp2
 refine wpIn_loop (λa W=>∃(j:Nat) (ds:List Nat) (u7 u12 u13 u14 u15 u16 u37:Value),j<=l.length/\a={tmps:= #[.int .i64 chip,.slice aa l.length cap,.pointer (some ⟨w0.heap.size,0,none⟩),undef,.slice none 0 0,.pointer (some ⟨w0.heap.size+1,0,none⟩),undef,u7,undef,.slice aa l.length cap,.int .i64 (l.length:Int),.int .i64 (j:Int),u12,u13,u14,u15,u16,undef,undef,undef,undef,undef,undef,undef,undef,undef,undef,undef,undef,undef,undef,undef,undef,undef,undef,undef,undef,u37,undef],defers:=ds.map mark}/\Rd w0 fz chip ds (expP chip (l.take j)) W) (λa _=>l.length-(intOf (a.tmps.getD 11 undef)).toNat) ?Zan ?round
 case Zan=>
  refine⟨0,[],undef,undef,undef,undef,undef,undef,undef,Yr _,rfl,⟨hx _ _,List.nodup_nil,λD hD=>by simp at hD,?_⟩⟩;refine⟨⟨by simp;omega,λk hk=> ?_⟩,rfl,rfl,rfl⟩;exact (Below.heap_alloc _ _ _ (by simp;omega)).trans (Below.heap_alloc _ _ _ hk)
 case round=>
  rintro a W ⟨j,ds,u7,u12,u13,u14,u15,u16,u37,hj,rfl,hR⟩;by_cases hlt:j<l.length
  ·obtain⟨b,off,hab,hcf⟩:∃b off,aa=some ⟨b,off,none⟩/\∀j x,l[j]? =some x->∀i,i<9->fz b (off+j*9+i)=some ((ZcH x).getD i undef):=by
    rcases hl with ⟨a,cap,e,e2⟩|⟨b,off,cap,e,_,h⟩
    ·rw[e2] at hlt;simp at hlt
    ·simp only[Value.slice.injEq] at e;exact⟨b,off,e.1,h⟩
   subst hab;obtain⟨x,hxj⟩:∃x,l[j]? =some x:=⟨_,Yg hlt⟩;have hcell:∀i,i<9->W.cell? ⟨b,off+j*9+i,none⟩=some ((ZcH x).getD i undef):=λi hi=>by obtain⟨y,hy1,_,hy3⟩:=hR.x;exact hy3.fz _ _ _ (hy1.fzl _ _ _ (hcf j x hxj i hi))
   have c0:=hcell 0 (by omega);have c1:=hcell 1 (by omega);have c2:=hcell 2 (by omega);have c3:=hcell 3 (by omega);have c4:=hcell 4 (by omega);have c5:=hcell 5 (by omega);have c6:=hcell 6 (by omega);have c7:=hcell 7 (by omega);have c8:=hcell 8 (by omega);simp[ZcH,Array.getD] at c0 c1 c2 c3 c4 c5 c6 c7 c8;have hf23:Fence.wide.fn 31:=trivial
   gi_wp2_with (gi_at_call 31;refine (ZXJ Fence.wide (n-1) trivial rfl x _).mono ?_;rintro e w' ⟨rfl,rfl⟩)
   have hitm:Zdu.ok x:=hok x (Ya8.2 ⟨j,hxj⟩);have hX2:=(Xw.item hR.x hitm 109).block (.cells (ZcH x) 109);have hI2:ZjQ ((W.alloc (.cells (ZcH x) 109)).alloc (.cells (ZcH x) 109)) (W.heap.size+1) x:=by have:=World.alloc_heap_new (W.alloc (.cells (ZcH x) 109)) (.cells (ZcH x) 109);rw[World.size_alloc] at this;exact this
   have hz2:((W.alloc (.cells (ZcH x) 109)).alloc (.cells (ZcH x) 109)).heap.size=W.heap.size+2:=by simp
   have hg2:W.grownBy ((W.alloc (.cells (ZcH x) 109)).alloc (.cells (ZcH x) 109)) none:=by have a1:=World.grownBy_alloc W (.cells (ZcH x) 109) none;have a2:=World.grownBy_alloc (W.alloc (.cells (ZcH x) 109)) (.cells (ZcH x) 109) none;exact⟨a2.os.trans a1.os,a2.tape.trans a1.tape,a2.output.trans a1.output,YD a1.size a2.size,λk hk hn=>(a2.block k (YaL hk a1.size) hn).trans (a1.block k hk hn)⟩
   rw[World.size_alloc] at hX2;generalize hW2:(W.alloc (.cells (ZcH x) 109)).alloc (.cells (ZcH x) 109)=W2 at*;have hs2:Zb5 w0 W2:=Zh9 hR.s hg2 (λr e=>by cases e);have hm2:∀D∈ds,(w0.heap.size<=D/\D<W2.heap.size)/\W2.heap[D]? =some (.deferred (some [])):=λD hD=>by obtain⟨k1,k2⟩:=hR.mks D hD;have hlt':=(Yv.1 k2).1;exact⟨⟨k1,by omega⟩,(hg2.block D hlt' (λe=>by cases e)).trans k2⟩
   have hwz:w0.heap.size<=W2.heap.size:=hs2.1.1;clear c0 c1 c2 c3 c4 c5 c6 c7 c8 hcell hcf;generalize hL:expP chip (l.take j)=L at*;have hLn:expP chip (l.take (j+1))=L++(stsL x).map (pinP chip x):=by rw[Yak,hxj];simp only[Option.toList_some];rw[ZOg,hL]
   have hLm:L.length+(stsL x).length<=most:=by have:=ZW0 chip (l.take (j+1)) (l.drop (j+1));rw[Yam,hLn] at this;simp at this;omega
   refine wpIn_rangeFunc_ownH (F:=Fence.wide) rfl h1 (gf:=87) (lb:= #[.pointer (some ⟨W.heap.size+1,0,none⟩)]) rfl trivial (enters_of Tryz.func87 (by kernel_rfl) rfl)
    (ZJd Fence.wide (n-1) trivial trivial trivial rfl (by omega) (W.heap.size+1) x W2 (by omega) hI2) (λh k=>Eq.trans k h) (λW' k o o' hk _ _ _=>World.putObj_heap_other (by omega)) (Below.refl _ _) (λ_=>rfl)
    (λpre W'=>Xw w0.heap.size (λk=>k=W.heap.size+1) fz [w0.heap.size,w0.heap.size+1,W.heap.size] (memB chip (L++pre.map (λt=>pinP chip x t.1)) x 0) W'/\(∀D∈ds,W'.heap[D]? =some (.deferred (some [])))/\Zb5 w0 W')
    (λ_ _ _=>False)
    (λpre A C row ⟨k1,k2,k3⟩ hg hr=>⟨k1.grown hg (λr e=>(hr r e).2),λD hD=>(hg.block D (Yv.1 (k2 D hD)).1 (λe=>by have:=(hr D e.symm).1;have:=(hm2 D hD).1.2;omega)).trans (k2 D hD),Zh9 k3 hg (λr e=>YD hwz (hr r e).1)⟩)
    (λ_ _ _ _ _ h _ _=>h) ⟨by rw[Ya5,YG];exact hX2,λD hD=>(hm2 D hD).2,hs2⟩
    (λt a' _=>a'={tmps:= #[.int .i64 chip,.slice (some ⟨b,off,none⟩) l.length cap,.pointer (some ⟨w0.heap.size,0,none⟩),undef,.slice none 0 0,.pointer (some ⟨w0.heap.size+1,0,none⟩),undef,.pointer (some ⟨W.heap.size,0,none⟩),.int .i64 t.1,.slice (some ⟨b,off,none⟩) l.length cap,.int .i64 (l.length:Int),.int .i64 (j:Int),.bool true,.pointer (some ⟨b,off+j*9,none⟩),.agg (ZcH x),.agg (ZcH x),.func (.func 87) #[] #[.pointer (some ⟨W.heap.size+1,0,none⟩)],.int .i64 t.1,undef,undef,undef,undef,undef,undef,undef,undef,undef,undef,undef,undef,undef,undef,undef,undef,undef,undef,undef,u37,undef],defers:=[]})
    (λ_ _ _ _ _ _ hs _ _=>hs) ?assign ?body ?done ?stop
   case assign=>
    rintro y pre t W' K hI hK;gi_wp2
    exact hK _ _ (KeepsFrom.refl _ _) rfl hI rfl
   case body=>
    rintro y pre t a' W' hy hlp ⟨k1,k2,k3⟩ rfl hlen;refine wpIn_block ?_;refine ZXO (chip:=chip) (t:=t.1) (x:=x) (by obtain⟨t,t0,t1⟩:=t;exact⟨by simp[IntKind.min,IntKind.signed,IntKind.bits];omega,by simp[IntKind.max,IntKind.signed,IntKind.bits];omega⟩) (by simp;omega) k1 rfl rfl rfl rfl rfl rfl (λ⟨_,_,h⟩=>h.elim) ?_;intro a2 W3 hX3 hz3 hb3 ho3 ht3 hp3;refine⟨⟨hz3,λk o hk ho hn=>(hb3 k (.inr (.inr ⟨o,ho,hn⟩))).trans ho⟩,hb3 _ (.inr (.inl rfl)),by rw[YaQ,<-List.append_assoc];exact hX3,λD hD=>(hb3 D (.inr (.inr ⟨_,k2 D hD,rfl⟩))).trans (k2 D hD),?_⟩;exact⟨⟨YD k3.1.1 hz3,λk hk=>(hb3 k (.inl (by omega))).trans (k3.1.2 k hk)⟩,ho3.trans k3.2.1,ht3.trans k3.2.2.1,hp3.trans k3.2.2.2⟩
   case done=>
    rintro D ys W' hD hS ⟨k1,k2,k3⟩ hK;have hb63:(j:Int)+1<=9223372036854775807:=by
     have:maxLen=9223372036854775807:=by decide
     omega
    have hj0:(0:Int)<=j:=by omega
    have eL:L++ys.map (λt=>pinP chip x t.1)=expP chip (l.take (j+1)):=by rw[hLn,<-hS,Ya4];rfl
    rw[eL] at k1;gi_wp2
    refine⟨⟨j+1,D::ds,_,_,_,_,_,_,_,hlt,rfl,⟨k1.all.drop,List.nodup_cons.2 ⟨λh=>by have:=(hm2 D h).1.2;omega,hR.nd⟩,λD' h'=> ?_,k3⟩⟩,?_⟩
    ·rcases Ys.1 h' with h'|h'
     ·subst h';exact⟨by omega,hK⟩
     ·exact⟨(hm2 D' h').1.1,k2 D' h'⟩
    ·simp[intOf];omega
   case stop=>
    rintro D c pre W' hD _ hf;exact hf.elim
  ·have hjl:j=l.length:=by omega
   subst hjl;obtain⟨y,s,hy1,hy2,hy3,hy4,hy5,hy6⟩:=hR.x.out;have hm2:=hR.mks;have hnd:=hR.nd;have hs2:=hR.s;rw[YaN] at hy4;gi_wp2
   refine Zjp (n₀:=w0.heap.size) (λW'=>MK y (memA chip (expP chip l)) W'/\Zb5 w0 W') ?_ ?_ ds _ hnd hm2 ⟨hy4,hs2⟩
   ·rintro W' D hD ⟨k1,k2⟩ hk;have hg:=grownBy_putObj' W' D (.deferred none);exact⟨k1.grown hg (λr e=>by cases e;exact⟨_,hk,rfl⟩),Zh9 k2 hg (λr e=>by cases e;exact hD)⟩
   ·rintro W' ⟨k1,k2⟩;refine⟨tipVal s,?_,s,y,rfl,hy6,hy2,hy3,hy1,k1,k2⟩;simp[results,Tryz.f11,go_sem]
end
end Go.Proofs.YteaflmalcclnoaaGreatDoor
namespace Go.Proofs.YteaflmalcclnoaaGreatDoor
open Go Go.S3 Go.Proofs Go.RowKit
noncomputable section
abbrev Zpb:List Sh:=[.one Kc,.one (.sl Zdu)]
abbrev ZY8:En:=newE ZcS 99 Zpb (λa=>some (Nat.ble (expP a.1 a.2).length most)) (λa=>expP a.1 a.2)
set_option maxHeartbeats 1000000 in
theorem ZEZ:Za Tryz.prog 11 ZY8:=by
 refine⟨Tryz.call11,λvs m=> ?_,λvs m q hq hc x w args hm hv=> ?_⟩
 ·simp only;split
  ·intro q hq;simp only[oinj] at hq;subst hq
   exact⟨Ye _,λb l hl=>⟨l,hl,rfl,λ_ _=>rfl⟩,by simp,λi g hg=>⟨g,by
    show nth (m.Sg++[_]) i=some g
    rw[Zi,Yp (ZZ hg),<-Zi];exact hg,Ye _,λ_=>rfl⟩⟩
  ·intro q hq;simp at hq
 ·simp only at hq;split at hq
  ·rename_i a ha;simp only[RT.val,oinj] at hq;subst hq;obtain⟨hargs,hin⟩:=Zax ha hv;obtain⟨chip,l⟩:=a;have hlen:(expP chip l).length<=most:=by
    cases hb:Nat.ble (expP chip l).length most with
    |true=>simpa [Yy] using hb
    |false=>simp only[hb] at hc;exact absurd rfl hc
   match args,hargs with
   |[v0,v1],hargs=>
    have hv0:RA x (.int false .i64 chip) v0:=hargs.1;have hv1:RA x (.lst Zdu false false false l) v1:=hargs.2.1;have hchip:inR .i64 chip:=hin.1;have hok:∀y∈(l:List ITMT),Zdu.ok y:=(hin.2:(R.sl Zdu).ok l).2;cases hv0;have key:=ZZc 5 (Ye _) v1 chip l x.fz (heldI hv1) hok hlen w (λT T'=>init7 hm hchip T T');refine (callsIn_wide.1 key).mono ?_;rintro e w' ⟨s,y,rfl,hver,hM,hS,hxc,hmok,hs⟩;have hext:Ext (Ctx.own0 w x.fz) {y with own:=(Ctx.own0 w x.fz).own}:=⟨rfl,λb p e=>by simp[Ctx.own0,Zn] at e,λb p e=>by simp[Ctx.own0,Zn] at e,hxc.fzl,λb o v e=>(hxc.fzn b o v e).imp id id⟩;obtain⟨h3,h4⟩:=Ziu hm hext hmok.fz hs.1;have hs0:nth y.S 0=some s:=by rw[hS];rfl
    have hok0:=hmok.stg 0 (stgP (expP chip l) 0) s rfl hs0;have hown:∀p cap,s.blk=some (p,cap)->w.heap.size<=p:=λp cap hp=>by have:=(hmok.sown 0 s p cap hs0 hp).1;rw[hxc.own] at this;exact this.1
    have hat:atomic (tipVal s):=by unfold tipVal;split<;>trivial
    have hj:=h3.joinS (g:=newG ZcS 99 (expP chip l)) (s:=s)
     (λp cap hp=>by
      have hp:=hown p cap hp
      exact⟨hm.fresh p hp,λb hb=>by have:=hm.M_lt hb;omega,λi s' cap' hs' hb=>by have:=hm.S_lt hs' hb;omega⟩)
     ⟨hver,hok0.n,hok0.wd,hok0.nil,λp cap hp=>by
      obtain⟨C,a1,a2,a3,a4,a5,a6,a7,a8⟩:=hok0.row p cap hp;refine⟨C,a1,a2,a3,a4,λi j a' hi ha'=> ?_,a6,a7,a8⟩;obtain⟨v,e1,e2⟩:=a5 i j a' hi ha'
      exact⟨v,e1,e2.plain (λ_ _ _ e=>e) (R.enc_plain _ _ _ (Zbd ha'))⟩,λ_=>hok0.fzn rfl,λh=>by simp at h,λh=>by simp at h⟩
    refine⟨tipVal s,_,rfl,?_,hj.1,h4.trans hj.2,hs.step hm⟩;refine RA.tip _ _ _ s _ ?_ (Yr _) (λ_=>rfl) hat;rw[Zi,Zad,<-hm.sl];simp
   |[],hargs=>exact hargs.elim
   |[_],hargs=>exact hargs.2.elim
   |_::_::_::_,hargs=>exact hargs.2.2.elim
  ·simp[RT.val] at hq
end
open Go Go.S3 Go.Proofs Go.RowKit
noncomputable section
abbrev ZBR:Rs:=.one (.one (.sl ZcS))
def ZTO:En:=Zf Zpb ZBR (λa=>some (Nat.ble (expP a.1 a.2).length most)) (λa=>expP a.1 a.2)
theorem ZZd (L:List PINT):ZBR.out ⟨[],[newG ZcS 99 L]⟩ (.w (.one (.tip 0 0)))=some L:=rfl
theorem ZRY:Za Tryz.prog 11 ZTO:=by
 refine⟨ZEZ.1,λvs chk v hp hc x m w args hm hv=> ?_⟩;simp only at hp;split at hp
 ·rename_i a ha;simp only[oinj,pinj] at hp;obtain⟨rfl,rfl⟩:=hp;obtain⟨hargs,hin⟩:=Zax ha hv;have hle:FzLe x (Ctx.own0 w x.fz):=λ_ _ _ e=>e
  have hargs':RVs (Ctx.own0 w x.fz) (Zdj Zpb a) args:=Zch (ZbJ hle Zpb a (ZaD hargs));have hd:Zip Zpb (Zdj Zpb a)=some a:=Zx3 (by rfl) a;have h2:=ZEZ.2.2 (Zdj Zpb a) ZdF {chk:=some (Nat.ble (expP a.1 a.2).length most),v:=.w (.one (.tip 0 0)),m:=⟨[],[newG ZcS 99 (expP a.1 a.2)]⟩,bd:=[],sd:=[]} (by simp only[hd];rfl) hc (Ctx.own0 w x.fz) w args (Zij hm) hargs';refine h2.mono λe w' hres=> ?_
  obtain⟨val,x1,rfl,hrv,hm1,hext,hst⟩:=hres;obtain⟨x2,m2,hm2,hext2,hrv2⟩:=Rs.out_ok (ZZd _) hm1 hrv;obtain⟨h3,h4⟩:=Ziu hm (hext.trans hext2) hm2.fz (Zab hst).1;exact⟨val,{x with fz:=x2.fz},rfl,Rs.enc_ctx (x:=x2) (x':={x with fz:=x2.fz}) (λ_ _ _ e=>e) ZBR _ hrv2,h3,h4,Zab hst⟩
 ·simp at hp
