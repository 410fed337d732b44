import Derived.Test.YtpnjbfjomebppaaGreatDecP
open Go.Proofs.Tryz (prog)
open Go.IntKind (u8 u16 i64)
set_option linter.unusedSimpArgs false
open Go Go.S3 Go.Proofs
set_option linter.unusedVariables false
set_option maxRecDepth 100000
namespace Go.Proofs.YtpnjbfjomebppaaGreat
noncomputable section
def Zg6:En:=.tree (Zr (envX prog [(50,Zmg),(97,ZEt),(98,ZjM),(99,Zw2)] [] 31 8) Tryz.f48)
theorem ZhY:Zb prog 48 Zg6:=ZL (P:=prog) (n:=31) (k:=8) (l:=[(50,Zmg),(97,ZEt),(98,ZjM),(99,Zw2)]) (ol:=[]) ⟨Zrn,ZEs,ZkY,ZsS,Tv⟩ Tryz.func48 rfl (by kernel_rfl) Tryz.call48 trivial
def Zbj:En:=.tree (Zr (envX prog [] [] 63 8) Tryz.f197)
theorem ZeF:Zb prog 197 Zbj:=ZL (P:=prog) (n:=63) (k:=8) (l:=[]) (ol:=[]) trivial Tryz.func197 rfl (by kernel_rfl) Tryz.call197 trivial
def Zbk:En:=.tree (Zr (envX prog [(197,Zbj)] [] 40567299923085334190945185301503 8) Tryz.f131)
theorem ZeG:Zb prog 131 Zbk:=ZL (P:=prog) (n:=40567299923085334190945185301503) (k:=8) (l:=[(197,Zbj)]) (ol:=[]) ⟨ZeF,Tv⟩ Tryz.func131 rfl (by kernel_rfl) Tryz.call131 trivial
def ZbP:En:=.tree (Zr (envX prog [] [] 31 8) Tryz.f133)
theorem Ze0:Zb prog 133 ZbP:=ZL (P:=prog) (n:=31) (k:=8) (l:=[]) (ol:=[]) trivial Tryz.func133 rfl (by kernel_rfl) Tryz.call133 trivial
def ZB:En:=.tree (Zr (envX prog [] [] 63 8) Tryz.f134)
theorem ZaO:Zb prog 134 ZB:=ZL (P:=prog) (n:=63) (k:=8) (l:=[]) (ol:=[]) trivial Tryz.func134 rfl (by kernel_rfl) Tryz.call134 trivial
def Za8:En:=.tree (Zr (envX prog [(120,Ziu),(133,ZbP),(134,ZB),(144,ZxB)] [] 63 8) Tryz.f132)
theorem ZdZ:Zb prog 132 Za8:=ZL (P:=prog) (n:=63) (k:=8) (l:=[(120,Ziu),(133,ZbP),(134,ZB),(144,ZxB)]) (ol:=[]) ⟨ZjN,Ze0,ZaO,ZES,Tv⟩ Tryz.func132 rfl (by kernel_rfl) Tryz.call132 trivial
def Zbi:En:=.tree (Zr (envX prog [(130,ZM1),(131,Zbk),(132,Za8),(133,ZbP),(134,ZB)] [] 45177283517874303 8) Tryz.f75)
theorem Zcb:Zb prog 75 Zbi:=ZL (P:=prog) (n:=45177283517874303) (k:=8) (l:=[(130,ZM1),(131,Zbk),(132,Za8),(133,ZbP),(134,ZB)]) (ol:=[]) ⟨ZQ1,ZeG,ZdZ,Ze0,ZaO,Tv⟩ Tryz.func75 rfl (by kernel_rfl) Tryz.call75 trivial
def Zaj:En:=.tree (Zr (envX prog [] [] 23 8) Tryz.f201)
theorem ZcF:Zb prog 201 Zaj:=ZL (P:=prog) (n:=23) (k:=8) (l:=[]) (ol:=[]) trivial Tryz.func201 rfl (by kernel_rfl) Tryz.call201 trivial
def Zbz:En:=.tree (Zr (envX prog [(201,Zaj),(269,ZgK)] [] 4195343 8) Tryz.f200)
theorem ZeO:Zb prog 200 Zbz:=ZL (P:=prog) (n:=4195343) (k:=8) (l:=[(201,Zaj),(269,ZgK)]) (ol:=[]) ⟨ZcF,Zns,Tv⟩ Tryz.func200 rfl (by kernel_rfl) Tryz.call200 trivial
def Zbm:En:=.tree (Zr (envX prog [(141,ZfX),(198,ZgJ),(199,Znk),(200,Zbz)] [] 63 8) Tryz.f135)
theorem ZeI:Zb prog 135 Zbm:=ZL (P:=prog) (n:=63) (k:=8) (l:=[(141,ZfX),(198,ZgJ),(199,Znk),(200,Zbz)]) (ol:=[]) ⟨ZjH,Znh,Zw4,ZeO,Tv⟩ Tryz.func135 rfl (by kernel_rfl) Tryz.call135 trivial
def Z8:En:=.tree (Zr (envX prog [] [] 127 8) Tryz.f204)
theorem Zcc:Zb prog 204 Z8:=ZL (P:=prog) (n:=127) (k:=8) (l:=[]) (ol:=[]) trivial Tryz.func204 rfl (by kernel_rfl) Tryz.call204 trivial
def Zby:En:=.tree (Zr (envX prog [(201,Zaj),(202,Zje),(203,Znl),(204,Z8),(205,Zi6),(206,ZjI)] [] 68720003071 8) Tryz.f137)
theorem ZeN:Zb prog 137 Zby:=ZL (P:=prog) (n:=68720003071) (k:=8) (l:=[(201,Zaj),(202,Zje),(203,Znl),(204,Z8),(205,Zi6),(206,ZjI)]) (ol:=[]) ⟨ZcF,ZqT,Zw7,Zcc,ZqI,Zrj,Tv⟩ Tryz.func137 rfl (by kernel_rfl) Tryz.call137 trivial
def Zbl:En:=.tree (Zr (envX prog [(143,ZcU),(204,Z8),(207,ZgI),(208,Zg2)] [] 255 8) Tryz.f140)
theorem ZeH:Zb prog 140 Zbl:=ZL (P:=prog) (n:=255) (k:=8) (l:=[(143,ZcU),(204,Z8),(207,ZgI),(208,Zg2)]) (ol:=[]) ⟨ZfK,Zcc,Znd,Zpu,Tv⟩ Tryz.func140 rfl (by kernel_rfl) Tryz.call140 trivial
def Zbn:En:=.tree (Zr (envX prog [(83,ZcV),(135,Zbm),(136,Zig),(137,Zby),(138,Zji),(139,Zcy),(140,Zbl),(141,ZfX),(142,Zpv),(143,ZcU)] [] 255 8) Tryz.f76)
theorem Zcd:Zb prog 76 Zbn:=ZL (P:=prog) (n:=255) (k:=8) (l:=[(83,ZcV),(135,Zbm),(136,Zig),(137,Zby),(138,Zji),(139,Zcy),(140,Zbl),(141,ZfX),(142,Zpv),(143,ZcU)]) (ol:=[]) ⟨Zd2,ZeI,Zjc,ZeN,ZqY,Zem,ZeH,ZjH,ZyH,ZfK,Tv⟩ Tryz.func76 rfl (by kernel_rfl) Tryz.call76 trivial
def Za0:En:=.tree (Zr (envX prog [(120,Ziu),(134,ZB),(144,ZxB)] [] 7 8) Tryz.f77)
theorem ZbQ:Zb prog 77 Za0:=ZL (P:=prog) (n:=7) (k:=8) (l:=[(120,Ziu),(134,ZB),(144,ZxB)]) (ol:=[]) ⟨ZjN,ZaO,ZES,Tv⟩ Tryz.func77 rfl (by kernel_rfl) Tryz.call77 trivial
abbrev ZCB:List Sh:=[Sh.agg (R.Pq (R.int i64) (R.Pq rcRG (R.Pq (R.int i64) (R.Pq (R.int u8) (R.Pq (R.int u8) (R.Pq R.bool rcCE)))))),Sh.one (R.sl (R.int u8))]
abbrev Zu2:Rs:=Rs.tup [Sh.agg (R.Pq (R.sl Zia) (R.Pq (R.sl Zkc) (R.Pq (R.sl ZJ0) (R.Pq (R.sl ZY) (R.Pq (R.Pq ZY (R.Pq (R.int i64) (R.Pq (R.sl (R.int u8)) (R.Pq (RY) (R.Pq (R.int i64) R.bool))))) (R.Pq rcCE (R.Pq ZaE (R.Pq (R.Pq (R.int u16) (R.Pq (R.int u8) (R.int i64))) (R.Pq (R.int i64) (R.sl (R.Pq (R.int u8) (R.int u8)))))))))))),Sh.one (R.int i64)]
def ZRY:LS:={n:=58,Sl:=[(4,.fix (A.loc 1 0)),(8,.fix (A.loc 5 0)),(29,.code (Sh.one (R.sl Zbt))),(30,.code (Sh.one (R.int i64))),(31,.code (Sh.one (R.int i64)))],Bx:=[List.replicate 7 .junk,List.replicate 66 .junk,List.replicate 7 .junk,List.replicate 62 .junk,List.replicate 62 .junk,[.many (R.Pq ZY (R.Pq (R.int i64) (R.Pq (R.sl (R.int u8)) (R.Pq (RY) (R.Pq (R.int i64) R.bool))))),.code rcCE,.many ZaE,.many (R.Pq (R.int u16) (R.Pq (R.int u8) (R.int i64))),.code (R.int i64),.tip 0,.many (R.Pq (R.int i64) (R.Pq rcRG (R.Pq (R.int i64) (R.Pq (R.int u8) (R.Pq (R.int u8) (R.Pq R.bool rcCE)))))),.tip 1,.tip 2,.tip 3,.tip 4,.many (R.Pq (R.Pq ZY (R.Pq (R.int i64) (R.Pq (R.sl (R.int u8)) (R.Pq (RY) (R.Pq (R.int i64) R.bool))))) (R.Pq rcCE (R.Pq ZaE (R.Pq (R.Pq (R.int u16) (R.Pq (R.int u8) (R.int i64))) (R.Pq (R.int i64) (R.sl (R.Pq (R.int u8) (R.int u8)))))))),.many ZY]],Sg:=[⟨R.Pq (R.int u8) (R.int u8),194,false⟩,⟨R.Pq (R.int i64) (R.Pq (R.int u16) (R.Pq (R.int u8) (R.Pq R.bool (R.Pq R.bool (R.Pq R.bool (R.Pq R.bool (R.Pq R.bool ZGe))))))),119,false⟩,⟨R.Pq (R.int i64) (R.Pq (RY) (R.Pq (R.int i64) (R.Pq (R.int i64) (R.Pq R.bool R.bool)))),70,false⟩,⟨R.Pq (R.int i64) (R.Pq (R.int i64) (R.Pq (R.sl (R.int u8)) (R.Pq ZGe (R.Pq R.bool (R.Pq R.bool (R.Pq R.bool (R.Pq R.bool (R.Pq (R.int u16) (R.int u8))))))))),77,false⟩,⟨R.Pq (R.int i64) (R.Pq ZmX (R.Pq R.bool (R.Pq R.bool (R.Pq R.bool (R.Pq (R.int u8) rcF7))))),38,false⟩]}
def Zc4 (a:List INPT×Int×Int×CORT×List (Int×Int)×PICT×(QT4)×Int×BRDT×SYST×TC×List (Int×Int)×List PINT×List ITMT×List EVTT×List TC×PUnit):RT (Option (Go1 (List INPT×Int×Int×CORT×List (Int×Int)×PICT×(QT4)×Int×BRDT×SYST×TC×List (Int×Int)×List PINT×List ITMT×List EVTT×List TC×PUnit))):=
 let x1:INPT:=R.get Zbt a.1 a.2.2.1
 let x2:=x1.1
 let x3:=bif a.2.2.2.1.2.2.2.1.1==1 then a.2.2.2.1.2.2.2.1.1==1 else bif a.2.2.2.1.2.2.2.1.1==2 then a.2.2.2.1.2.2.2.1.1==2 else bif a.2.2.2.1.2.2.2.1.1==3 then a.2.2.2.1.2.2.2.1.1==3 else bif a.2.2.2.1.2.2.2.1.1==4 then a.2.2.2.1.2.2.2.1.1==4 else a.2.2.2.1.2.2.2.1.1==5
 let x4:= !x3
 let x5:= !x2||(x4||smG a.2.2.2.2.2.2.2.2.1.2.1)
 let x6:= !x5
 let x7:=x1.2
 let x8:=x7.2
 let x9:=x8.1
 let x10:= !x9
 let x11:=x10&&Zbv a.2.2.2.1==3
 let x12:=x11&&ZaU a.2.2.2.1.2.2.2.1.1
 let x13:=smG a.2.2.2.2.2.2.2.2.1.2.1&&smC a.2.2.2.2.1
 let x14:= !x12||(x4||x13)
 let x15:= !x14
 let x16:=x11&&Zb2 a.2.2.2.1.2.2.2.1.1
 let x17:= !x16
 let x18:= !a.2.2.2.1.2.2.2.1.1 !=7||x13
 let x19:List (Int×Int):=a.2.2.2.2.2.2.2.2.2.2.2.1++[(u8.wrap a.2.2.2.1.2.2.2.1.2.1,a.2.2.2.1.2.2.2.1.2.2.1)]
 let x20:=x17||(!x18||(a.2.2.2.1.2.2.2.1.1 !=7||Nat.ble (List.length x19) most))
 let x21:= !x20
 let p7:=x21::(!Zh8 a.2.2.2.1)::x15::x6::[]
 let x22:=x17||x18
 let x23:= !x22
 let p14:=x23::p7
 let x24:Int:=bif a.2.2.2.1.2.2.2.2.1==7 then i64.wrap (a.2.2.2.2.2.2.2.1+1) else 0
 let x25:Int:=if 100<a.2.2.2.2.2.2.2.2.1.2.2.1 then 100 else a.2.2.2.2.2.2.2.2.1.2.2.1
 let x26:=x8.2
 let x27:=x26.2
 let x28:=x27.2
 let x29:=x28.2
 let x30:=x29.2
 let x31:=a.2.2.2.2.2.2.2.2.1.2.2.2.2
 let x32:=x31.2.1
 let x33:=x30.2
 let x34:=x33.1
 let x35:=ZaJ a.2.2.2.2.2.1 x34
 let x36:LINT:=(x2&&bif x3 then decide (x24>=Zgj a.2.2.2.2.2.2.2.2.1.2.1 a.2.2.2.1.2.2.2.1.2.1) else bif a.2.2.2.1.2.2.2.1.1==6||a.2.2.2.1.2.2.2.1.1==7 then decide (x24>=if x25>0 then x25 else 0) else decide (x24>=0),x7.1||Zn a.2.2.2.2.2.2.1,x9,x26.1,x27.1,x28.1,x29.1,x30.1,bif x32 then andI u8 x34 1==1 else vInt x35)
 let x37:=a.2.2.2.1.2.2.2.1.1==8||a.2.2.2.1.2.2.2.1.1==9
 let x38:= !x32
 let x39:Int:=bif x32 then a.2.2.2.2.2.1.1 else x35.1
 let x40:=x35.2
 let x41:=bif x32 then a.2.2.2.2.2.1.2.1 else x40.1
 let x42:=x40.2
 let x43:=bif x32 then a.2.2.2.2.2.1.2.2.1 else x42.1
 let x44:=x42.2
 let x45:=bif x32 then a.2.2.2.2.2.1.2.2.2.1 else x44.1
 let x46:=x44.2
 let x47:=bif x32 then a.2.2.2.2.2.1.2.2.2.2.1 else x46.1
 let x48:=x46.2
 let x49:Int:=bif x32 then a.2.2.2.2.2.1.2.2.2.2.2.1 else x48.1
 let x50:=x48.2
 let x51:Int:=bif x32 then a.2.2.2.2.2.1.2.2.2.2.2.2.1 else x50.1
 let x52:=a.2.2.2.2.2.1.2.2.2.2.2.2.2
 let x53:=x50.2
 let x54:=bif x32 then x52.1 else x53.1
 let x55:=x52.2
 let x56:=x53.2
 let x57:=bif x32 then x55.1 else x56.1
 let x58:=x55.2
 let x59:=x56.2
 let x60:=bif x32 then x58.1 else x59.1
 let x61:=x58.2
 let x62:=x59.2
 let x63:=bif x32 then x61.1 else x62.1
 let x64:=x61.2
 let x65:=x62.2
 let x66:=bif x32 then x64.1 else x65.1
 let x67:=x64.2
 let x68:=x65.2
 let x69:Int:=bif x32 then x67.1 else x68.1
 let x70:=x67.2
 let x71:=x68.2
 let x72:Int:=bif x32 then x70.1 else x71.1
 let x73:=x70.2
 let x74:=x71.2
 let x75:Int:=bif x32 then x73.1 else x74.1
 let x76:=x73.2
 let x77:=x74.2
 let x78:Int:=bif x32 then x76.1 else x77.1
 let x79:=x76.2
 let x80:=x77.2
 let x81:Int:=bif x32 then x79.1 else x80.1
 let x82:=x79.2
 let x83:=x80.2
 let x84:Int:=bif x32 then x82.1 else x83.1
 let x85:=x82.2
 let x86:=x83.2
 let x87:Int:=bif x32 then x85.1 else x86.1
 let x88:=bif x32 then x85.2 else x86.2
 let x89:PICT:=(x39,x41,x43,x45,x47,x49,x51,x54,x57,x60,x63,x66,x69,x72,x75,x78,x81,x84,x87,x88)
 let x90:=vAck x89
 let x91:=x33.2
 let x92:=u8.wrap (u8.wrap a.2.2.2.1.2.2.2.1.2.1-a.2.2.2.2.2.2.2.2.1.2.2.2.1)
 let x93:=x38&&decide (x92<2)
 let x94:=x92==1
 let x95:=bif x38 then x94 else x94
 let x96:=ZiE x89 x95
 let x97:=u8.wrap (u8.wrap a.2.2.2.1.2.2.2.1.2.1-x31.1)
 let x98:=decide (x97<4)
 let x99:=i64.wrap x97
 let x100:Int:=bif x12 then bif x3 then Zgw a.2.2.2.2.2.2.2.2.1.2.1 a.2.2.2.2.1 a.2.2.2.1.2.2.2.1.2.1 else bif x37 then bif x38 then x90.2 else x91 else bif x93 then x96.2 else bif x98 then ZhM a.2.2.2.2.2.2.1 x99 else x91 else 0
 let x101:=clkX a.2.2.2.1 x36 x100
 let x102:=x101.2
 let x103:=ZdD a.2.2.2.2.2.2.1 x99 a.2.2.2.1.2.2.2.1.2.2.1
 let x104:Int:=bif x16 then bif a.2.2.2.1.2.2.2.1.1 !=7 then a.2.2.2.2.2.2.1.1 else bif x93 then a.2.2.2.2.2.2.1.1 else bif x98 then x103.1 else a.2.2.2.2.2.2.1.1 else a.2.2.2.2.2.2.1.1
 let x105:=x103.2
 let x106:Int:=bif x16 then bif a.2.2.2.1.2.2.2.1.1 !=7 then a.2.2.2.2.2.2.1.2.1 else bif x93 then a.2.2.2.2.2.2.1.2.1 else bif x98 then x105.1 else a.2.2.2.2.2.2.1.2.1 else a.2.2.2.2.2.2.1.2.1
 let x107:Int:=bif x16 then bif a.2.2.2.1.2.2.2.1.1 !=7 then a.2.2.2.2.2.2.1.2.2 else bif x93 then a.2.2.2.2.2.2.1.2.2 else bif x98 then x105.2 else a.2.2.2.2.2.2.1.2.2 else a.2.2.2.2.2.2.1.2.2
 let x108:QT4:=(x104,x106,x107)
 let x109:=x102.2.2.2.2.2.2.2.2.2.2.2.2.2.2.2.1&&Zn x108
 let x110:List (Int×Int):=bif x16 then bif a.2.2.2.1.2.2.2.1.1 !=7 then ZaK a.2.2.2.2.2.2.2.2.1.2.1 a.2.2.2.2.1 a.2.2.2.1.2.2.2.1.2.1 a.2.2.2.1.2.2.2.1.2.2.1 else a.2.2.2.2.1 else a.2.2.2.2.1
 let x111:= !x109||smG a.2.2.2.2.2.2.2.2.1.2.1&&smC x110
 let x112:= !x111
 let p17:=x112::p14
 let x113:=a.2.2.2.2.2.2.2.2.2.2.2.2.1
 let x114:List PINT:=x113++[x102]
 let x115:=Nat.ble (List.length x114) most
 let x116:= !x115
 let p20:=x116::p17
 let x117:=x102.1
 let x118:=x117 !=10
 let x119:= !x118||Zh8 a.2.2.2.1&&x10
 let x120:= !x119
 let p27:=x120::p20
 let x121:=x117==1
 let x122:=a.2.2.2.2.2.2.2.2.2.2.2.2.2
 let x123:=x122.1
 let x124:=ZaG a.2.2.2.1 x36 x100
 let x125:=x124.2
 let x126:=x125.2
 let x127:=x126.2
 let x128:=x127.1
 let x129:=x128.2
 let x130:=x129.2
 let x131:QT12:=(bif x118 then x128.1 else 0,bif x118 then x129.1 else 0,bif x118 then x130.1 else 0,bif x118 then x130.2 else 0)
 let x132:=a.2.2.2.1.1.2.2.2.2.2.2.2.2
 let x133:=x132.2
 let x134:=x133.2.2.2
 let x135:Int×Int×Bool×Bool:=(0,1,a.2.2.2.1.1.2.2.1,x134)
 let x136:List ITMT:=x123++[(1,x131,x135)]
 let x137:= !x121||Nat.ble (List.length x136) most
 let x138:= !x137
 let x139:=x117==7
 let x140:= !x139
 let x141:Nat:=List.length x123
 let x142:=iN x141
 let x143:=i64.wrap (x142-1)
 let x144:=Zf x143 x141
 let x145:=x121||(x140||(!x144||x144))
 let x146:= !x145
 let x147:=x121||(x140||x144)
 let x148:= !x147
 let x149:=x117==2
 let x150:=x117==3
 let x151:=x117==4
 let x152:=x117==5
 let x153:=bif x149 then x149 else bif x150 then x150 else bif x151 then x151 else bif x152 then x152 else x117==6
 let x154:= !x153
 let x155:=x121||(x139||(x154||x144))
 let x156:= !x155
 let p1:=x156::x148::x146::x138::[]
 let x157:ITMT:=R.get Zkc x123 x143
 let x158:=x157.1
 let x159:=x157.2
 let x160:=x159.1
 let x161:=x159.2
 let x162:=x161.1
 let x163:=x161.2
 let x164:=x163.2
 let x165:=setI x123 x143 (x158,x160,x162,x117,x164)
 let x166:=x121||(x139||(x154||Zf x143 (List.length x165)))
 let x167:= !x166
 let p13:=x167::p1
 let x168:=x117==8
 let x169:= !x168
 let p3:=x169::x153::x139::x121::[]
 let x170:=decide (x142>0)
 let x171:= !x170
 let x172:=x171||x144
 let x173:= !x172
 let p18:=x170::x173::p3
 let x174:=x164.1==a.2.2.2.1.1.2.2.1&&x164.2==x134
 let x175:=x158==2&&x174
 let p22:=x175::x171::x173::p3
 let x176:TY×Int×Int×Bool×Bool:=((0,0,0,0),x135)
 let x177:List ITMT:=x123++[(2,x176)]
 let x178:=Nat.ble (List.length x177) most
 let x179:=orR p22 x178
 let x180:= !x179
 let p19:=x180::p13
 let x181:=orR p18 x178
 let x182:= !x181
 let p21:=x182::p19
 let x183:=orR p3 x172
 let x184:= !x183
 let p32:=x184::p21
 let x185:=x117==9
 let x186:= !x185
 let p10:=x186::x168::x153::x139::x121::[]
 let p23:=x170::x173::p10
 let x187:=x158==3&&x174
 let p31:=x187::x171::x173::p10
 let x188:List ITMT:=x123++[(3,(0,a.2.2.2.1.1.2.1.2.2.2.2.2.2.2.2.2,0,0),x135)]
 let x189:=Nat.ble (List.length x188) most
 let x190:=orR p31 x189
 let x191:= !x190
 let p35:=x191::p32
 let x192:=orR p23 x189
 let x193:= !x192
 let p38:=x193::p35
 let x194:=orR p10 x172
 let x195:= !x194
 let p43:=x195::p38
 let x196:=x117==10
 let x197:= !x196
 let p26:=x170::x173::x197::x185::x168::x153::x139::x121::[]
 let x198:=x158==4&&x174
 let p37:=x198::x171::x173::x197::x185::x168::x153::x139::x121::[]
 let x199:List ITMT:=x123++[(4,x176)]
 let x200:=Nat.ble (List.length x199) most
 let x201:=orR p37 x200
 let x202:= !x201
 let p48:=x202::p43
 let x203:=orR p26 x200
 let p64:=x197::x185::x168::x153::x139::x121::(!x203)::p48
 let x204:=orR p64 x172
 let x205:= !x204
 let x206:=orR p48 x203
 let x207:= !x206
 let x208:=orR p43 x201
 let x209:= !x208
 let x210:=orR p38 x194
 let x211:= !x210
 let p5:=x211::x209::x207::x205::[]
 let x212:=orR p35 x192
 let x213:= !x212
 let p9:=x213::p5
 let x214:=orR p32 x190
 let x215:= !x214
 let p15:=x215::p9
 let x216:=orR p21 x183
 let x217:= !x216
 let p25:=x217::p15
 let x218:=orR p19 x181
 let x219:= !x218
 let p28:=x219::p25
 let x220:=orR p13 x179
 let x221:= !x220
 let p33:=x221::p28
 let x222:=orR p1 x166
 let x223:= !x222
 let p41:=x223::p33
 let x224:=x138||(x146||(x148||x155))
 let x225:= !x224
 let p44:=x225::p41
 let x226:=x138||(x146||x147)
 let x227:= !x226
 let p46:=x227::p44
 let x228:=x138||x145
 let p52:=(!x228)::p46
 let x229:=orR p52 x137
 let x230:= !x229
 let p34:=x230::p27
 let x231:=orR p46 x228
 let x232:= !x231
 let p39:=x232::p34
 let x233:=orR p44 x226
 let x234:= !x233
 let p45:=x234::p39
 let x235:=orR p41 x224
 let x236:= !x235
 let p47:=x236::p45
 let x237:=orR p33 x222
 let x238:= !x237
 let p50:=x238::p47
 let x239:=orR p28 x220
 let x240:= !x239
 let p53:=x240::p50
 let x241:=orR p25 x218
 let x242:= !x241
 let p55:=x242::p53
 let x243:=orR p15 x216
 let x244:= !x243
 let p58:=x244::p55
 let x245:=orR p9 x214
 let x246:= !x245
 let p60:=x246::p58
 let x247:=orR p5 x212
 let x248:= !x247
 let p62:=x248::p60
 let x249:=x205||(x207||(x209||x210))
 let x250:= !x249
 let p65:=x250::p62
 let x251:=x205||(x207||x208)
 let x252:= !x251
 let p66:=x252::p65
 let x253:=x205||x206
 let x254:= !x253
 let p68:=x254::p66
 let p70:=x205::p68
 let x255:= !Zuj a.2.2.2.1||Nat.ble (List.length a.2.2.2.1.2.2.1) most
 let x256:= !x255
 let x257:=x122.2
 let x258:=x257.1
 let x259:QT26:=(x36,a.2.2.2.1.1.2.2.2.2.2.2.2.1,a.2.2.2.1.1.2.2.2.2.2.2.1,x133.1,x132.1,0,0)
 let x260:List EVTT:=x258++[(6,a.2.2.2.1.2.1,a.2.2.2.1.2.2.1,x259)]
 let x261:=Nat.ble (List.length x260) most
 let x262:=x257.2.1
 let x263:List TC:=x262++[a.2.2.2.2.2.2.2.2.2.2.1]
 let x264:= !Zuj a.2.2.2.1||(!x261||Nat.ble (List.length x263) most)
 let x265:= !x264
 let x266:= !Zuj a.2.2.2.1||x261
 let x267:= !x266
 let p6:=x267::x265::x256::x197::[]
 let x268:List EVTT:=(bif Zuj a.2.2.2.1 then x260 else x258)++[(4,0,[],x259)]
 let x269:=Nat.ble (List.length x268) most
 let x270:=x101.1
 let x271:=x270.1
 let x272:List TC:=(bif Zuj a.2.2.2.1 then x263 else x262)++[x271]
 let x273:= !x269||Nat.ble (List.length x272) most
 let p12:=(!x273)::p6
 let x274:=orR p12 x269
 let x275:= !x274
 let x276:=orR p6 x273
 let x277:= !x276
 let x278:=x197||(x256||(x265||x266))
 let x279:= !x278
 let x280:=x197||(x256||x264)
 let x281:= !x280
 let p4:=x281::x279::x277::x275::[]
 let x282:=x197||x255
 let x283:= !x282
 let p8:=x283::p4
 let x284:=x118&&x124.1
 let x285:= !x284
 let x286:=x127.2.2.2.2.2.2.2
 let x287:=x286.2
 let x288:=x287.2
 let x289:List EVTT:=x258++[(bif a.2.2.2.1.2.1==0 then 1 else bif a.2.2.2.1.2.1==5 then 2 else 3,a.2.2.2.1.2.1,bif x118 then x126.1 else [],x36,x118&&x287.1,x118&&x286.1,x118&&x288.2.1,x118&&x288.1,0,0)]
 let x290:=Nat.ble (List.length x289) most
 let x291:=x125.1
 let x292:Int:=bif x118 then x291.1 else 0
 let x293:=x291.2
 let x294:=x293.1
 let x295:Int:=bif x118 then x294.1 else 0
 let x296:=x294.2
 let x297:Int:=bif x118 then x296.1 else 0
 let x298:=x296.2
 let x299:Int:=bif x118 then x298.1 else 0
 let x300:=x298.2
 let x301:Int:=bif x118 then x300.1 else 0
 let x302:=x300.2
 let x303:Int:=bif x118 then x302.1 else 0
 let x304:=x302.2
 let x305:Int:=bif x118 then x304.1 else 0
 let x306:=x304.2
 let x307:Int:=bif x118 then x306.1 else 0
 let x308:=x306.2
 let x309:=x308.1
 let x310:=x118&&x309.1
 let x311:=x309.2
 let x312:=x118&&x311.1
 let x313:=x311.2
 let x314:=x118&&x313.1
 let x315:=x313.2
 let x316:=x118&&x315.1
 let x317:=x315.2
 let x318:=x118&&x317.1
 let x319:=x317.2
 let x320:=x118&&x319.1
 let x321:=x118&&x319.2
 let x322:=x308.2
 let x323:Int:=bif x118 then x322.1 else 0
 let x324:Int:=bif x118 then x322.2 else 0
 let x325:=x293.2
 let x326:=x118&&x325.1
 let x327:=x325.2
 let x328:=x118&&x327.1
 let x329:=x327.2
 let x330:=x118&&x329.1
 let x331:=x329.2
 let x332:Int:=bif x118 then x331.1 else 0
 let x333:=x331.2
 let x334:=x118&&x333.1
 let x335:=x333.2
 let x336:=x118&&x335.1
 let x337:=x335.2
 let x338:=x118&&x337.1
 let x339:=x337.2
 let x340:=x118&&x339.1
 let x341:=x339.2
 let x342:=x118&&x341.1
 let x343:=x341.2
 let x344:=x118&&x343.1
 let x345:=x118&&x343.2
 let x346:List TC:=x262++[(x292,(x295,x297,x299,x301,x303,x305,x307,(x310,x312,x314,x316,x318,x320,x321),x323,x324),x326,x328,x330,x332,x334,x336,x338,x340,x342,x344,x345)]
 let x347:=x196||(x285||(!x290||Nat.ble (List.length x346) most))
 let p30:=x285::x196::(!x347)::p8
 let x348:=orR p30 x290
 let x349:= !x348
 let p72:=x349::p70
 let x350:=orR p8 x347
 let x351:= !x350
 let p75:=x351::p72
 let x352:=orR p4 x282
 let x353:= !x352
 let p77:=x353::p75
 let x354:=x275||(x277||(x279||x280))
 let x355:= !x354
 let p79:=x355::p77
 let x356:=x275||(x277||x278)
 let x357:= !x356
 let p81:=x357::p79
 let x358:=x275||x276
 let x359:= !x358
 let p82:=x359::p81
 let p84:=x275::p82
 let x360:=ZaI x108
 let x361:=x360.2
 let x362:=x109&&x361.2
 let x363:= !x362
 let x364:List EVTT:=bif x196 then x268 else bif x284 then x289 else x258
 let x365:=x361.1
 let x366:=x365.1
 let x367:=x365.2
 let x368:List EVTT:=x364++[(5,0,[],(false,false,false,false,false,false,false,false,false),false,false,false,false,bif x109 then x366 else 0,bif x109 then x367 else 0)]
 let x369:=Nat.ble (List.length x368) most
 let x370:List TC:=bif x196 then x272 else bif x284 then x346 else x262
 let x371:Int:=bif x196 then x271.1 else bif x284 then x292 else a.2.2.2.2.2.2.2.2.2.2.1.1
 let x372:=x271.2
 let x373:=x372.1
 let x374:=a.2.2.2.2.2.2.2.2.2.2.1.2.1
 let x375:Int:=bif x196 then x373.1 else bif x284 then x295 else x374.1
 let x376:=x373.2
 let x377:=x374.2
 let x378:Int:=bif x196 then x376.1 else bif x284 then x297 else x377.1
 let x379:=x376.2
 let x380:=x377.2
 let x381:Int:=bif x196 then x379.1 else bif x284 then x299 else x380.1
 let x382:=x379.2
 let x383:=x380.2
 let x384:Int:=bif x196 then x382.1 else bif x284 then x301 else x383.1
 let x385:=x382.2
 let x386:=x383.2
 let x387:Int:=bif x196 then x385.1 else bif x284 then x303 else x386.1
 let x388:=x385.2
 let x389:=x386.2
 let x390:Int:=bif x196 then x388.1 else bif x284 then x305 else x389.1
 let x391:=x388.2
 let x392:=x389.2
 let x393:Int:=bif x196 then x391.1 else bif x284 then x307 else x392.1
 let x394:=x391.2
 let x395:=x394.1
 let x396:=x392.2
 let x397:=x396.1
 let x398:=bif x196 then x395.1 else bif x284 then x310 else x397.1
 let x399:=x395.2
 let x400:=x397.2
 let x401:=bif x196 then x399.1 else bif x284 then x312 else x400.1
 let x402:=x399.2
 let x403:=x400.2
 let x404:=bif x196 then x402.1 else bif x284 then x314 else x403.1
 let x405:=x402.2
 let x406:=x403.2
 let x407:=bif x196 then x405.1 else bif x284 then x316 else x406.1
 let x408:=x405.2
 let x409:=x406.2
 let x410:=bif x196 then x408.1 else bif x284 then x318 else x409.1
 let x411:=x408.2
 let x412:=x409.2
 let x413:=bif x196 then x411.1 else bif x284 then x320 else x412.1
 let x414:=bif x196 then x411.2 else bif x284 then x321 else x412.2
 let x415:=x394.2
 let x416:=x396.2
 let x417:Int:=bif x196 then x415.1 else bif x284 then x323 else x416.1
 let x418:Int:=bif x196 then x415.2 else bif x284 then x324 else x416.2
 let x419:=x372.2
 let x420:=a.2.2.2.2.2.2.2.2.2.2.1.2.2
 let x421:=bif x196 then x419.1 else bif x284 then x326 else x420.1
 let x422:=x419.2
 let x423:=x420.2
 let x424:=bif x196 then x422.1 else bif x284 then x328 else x423.1
 let x425:=x422.2
 let x426:=x423.2
 let x427:=bif x196 then x425.1 else bif x284 then x330 else x426.1
 let x428:=x425.2
 let x429:=x426.2
 let x430:Int:=bif x196 then x428.1 else bif x284 then x332 else x429.1
 let x431:=x428.2
 let x432:=x429.2
 let x433:=bif x196 then x431.1 else bif x284 then x334 else x432.1
 let x434:=x431.2
 let x435:=x432.2
 let x436:=bif x196 then x434.1 else bif x284 then x336 else x435.1
 let x437:=x434.2
 let x438:=x435.2
 let x439:=bif x196 then x437.1 else bif x284 then x338 else x438.1
 let x440:=x437.2
 let x441:=x438.2
 let x442:=bif x196 then x440.1 else bif x284 then x340 else x441.1
 let x443:=x440.2
 let x444:=x441.2
 let x445:=bif x196 then x443.1 else bif x284 then x342 else x444.1
 let x446:=x443.2
 let x447:=x444.2
 let x448:=bif x196 then x446.1 else bif x284 then x344 else x447.1
 let x449:=bif x196 then x446.2 else bif x284 then x345 else x447.2
 let x450:List TC:=x370++[(x371,(x375,x378,x381,x384,x387,x390,x393,(x398,x401,x404,x407,x410,x413,x414),x417,x418),x421,x424,x427,x430,x433,x436,x439,x442,x445,x448,x449)]
 let x451:=x363||(!x369||Nat.ble (List.length x450) most)
 let p88:=x363::(!x451)::p84
 let x452:=orR p88 x369
 let x453:= !x452
 let x454:=orR p84 x451
 let x455:= !x454
 let x456:=orR p82 x274
 let x457:= !x456
 let p2:=x457::x455::x453::(!Zf a.2.2.1 (List.length a.1))::[]
 let x458:=orR p81 x358
 let x459:= !x458
 let p11:=x459::p2
 let x460:=orR p79 x356
 let x461:= !x460
 let p16:=x461::p11
 let x462:=orR p77 x354
 let x463:= !x462
 let p24:=x463::p16
 let x464:=orR p75 x352
 let x465:= !x464
 let p29:=x465::p24
 let x466:=orR p72 x350
 let x467:= !x466
 let p36:=x467::p29
 let x468:=orR p70 x348
 let x469:= !x468
 let p40:=x469::p36
 let x470:=orR p68 x204
 let x471:= !x470
 let p42:=x471::p40
 let x472:=orR p66 x253
 let x473:= !x472
 let p49:=x473::p42
 let x474:=orR p65 x251
 let x475:= !x474
 let p51:=x475::p49
 let x476:=orR p62 x249
 let x477:= !x476
 let p54:=x477::p51
 let x478:=orR p60 x247
 let x479:= !x478
 let p56:=x479::p54
 let x480:=orR p58 x245
 let x481:= !x480
 let p57:=x481::p56
 let x482:=orR p55 x243
 let x483:= !x482
 let p59:=x483::p57
 let x484:=orR p53 x241
 let x485:= !x484
 let p61:=x485::p59
 let x486:=orR p50 x239
 let x487:= !x486
 let p63:=x487::p61
 let x488:=orR p47 x237
 let x489:= !x488
 let p67:=x489::p63
 let x490:=orR p45 x235
 let x491:= !x490
 let p69:=x491::p67
 let x492:=orR p39 x233
 let x493:= !x492
 let p71:=x493::p69
 let x494:=orR p34 x231
 let x495:= !x494
 let p73:=x495::p71
 let x496:=orR p27 x229
 let x497:= !x496
 let p74:=x497::p73
 let x498:=orR p20 x119
 let x499:= !x498
 let p76:=x499::p74
 let x500:=orR p17 x115
 let x501:= !x500
 let p78:=x501::p76
 let x502:=orR p14 x111
 let x503:= !x502
 let p80:=x503::p78
 let x504:=orR p7 x22
 let x505:= !x504
 let p83:=x505::p80
 let x506:=x6||(x15||(!Zh8 a.2.2.2.1||x20))
 let x507:= !x506
 let p85:=x507::p83
 let x508:=x6||(x15||Zh8 a.2.2.2.1)
 let x509:= !x508
 let p86:=x509::p85
 let x510:=x6||x14
 let p87:=(!x510)::p86
 let x511:=x90.1
 let x512:=x96.1
 let x513:Int:=bif x12 then bif x3 then x39 else bif x37 then bif x38 then x511.1 else x39 else bif x93 then x512.1 else x39 else x39
 let x514:=x511.2
 let x515:=x512.2
 let x516:=bif x12 then bif x3 then x41 else bif x37 then bif x38 then x514.1 else x41 else bif x93 then x515.1 else x41 else x41
 let x517:=x514.2
 let x518:=x515.2
 let x519:=bif x12 then bif x3 then x43 else bif x37 then bif x38 then x517.1 else x43 else bif x93 then x518.1 else x43 else x43
 let x520:=x517.2
 let x521:=x518.2
 let x522:=bif x12 then bif x3 then x45 else bif x37 then bif x38 then x520.1 else x45 else bif x93 then x521.1 else x45 else x45
 let x523:=x520.2
 let x524:=x521.2
 let x525:=bif x12 then bif x3 then x47 else bif x37 then bif x38 then x523.1 else x47 else bif x93 then x524.1 else x47 else x47
 let x526:=x523.2
 let x527:=x524.2
 let x528:Int:=bif x12 then bif x3 then x49 else bif x37 then bif x38 then x526.1 else x49 else bif x93 then x527.1 else x49 else x49
 let x529:=x526.2
 let x530:=x527.2
 let x531:Int:=bif x12 then bif x3 then x51 else bif x37 then bif x38 then x529.1 else x51 else bif x93 then x530.1 else x51 else x51
 let x532:=x529.2
 let x533:=x530.2
 let x534:=bif x12 then bif x3 then x54 else bif x37 then bif x38 then x532.1 else x54 else bif x93 then x533.1 else x54 else x54
 let x535:=x532.2
 let x536:=x533.2
 let x537:=bif x12 then bif x3 then x57 else bif x37 then bif x38 then x535.1 else x57 else bif x93 then x536.1 else x57 else x57
 let x538:=x535.2
 let x539:=x536.2
 let x540:=bif x12 then bif x3 then x60 else bif x37 then bif x38 then x538.1 else x60 else bif x93 then x539.1 else x60 else x60
 let x541:=x538.2
 let x542:=x539.2
 let x543:=bif x12 then bif x3 then x63 else bif x37 then bif x38 then x541.1 else x63 else bif x93 then x542.1 else x63 else x63
 let x544:=x541.2
 let x545:=x542.2
 let x546:=bif x12 then bif x3 then x66 else bif x37 then bif x38 then x544.1 else x66 else bif x93 then x545.1 else x66 else x66
 let x547:=x544.2
 let x548:=x545.2
 let x549:Int:=bif x12 then bif x3 then x69 else bif x37 then bif x38 then x547.1 else x69 else bif x93 then x548.1 else x69 else x69
 let x550:=x547.2
 let x551:=x548.2
 let x552:Int:=bif x12 then bif x3 then x72 else bif x37 then bif x38 then x550.1 else x72 else bif x93 then x551.1 else x72 else x72
 let x553:=x550.2
 let x554:=x551.2
 let x555:Int:=bif x12 then bif x3 then x75 else bif x37 then bif x38 then x553.1 else x75 else bif x93 then x554.1 else x75 else x75
 let x556:=x553.2
 let x557:=x554.2
 let x558:Int:=bif x12 then bif x3 then x78 else bif x37 then bif x38 then x556.1 else x78 else bif x93 then x557.1 else x78 else x78
 let x559:=x556.2
 let x560:=x557.2
 let x561:Int:=bif x12 then bif x3 then x81 else bif x37 then bif x38 then x559.1 else x81 else bif x93 then x560.1 else x81 else x81
 let x562:=x559.2
 let x563:=x560.2
 let x564:Int:=bif x12 then bif x3 then x84 else bif x37 then bif x38 then x562.1 else x84 else bif x93 then x563.1 else x84 else x84
 let x565:=x562.2
 let x566:=x563.2
 let x567:Int:=bif x12 then bif x3 then x87 else bif x37 then bif x38 then x565.1 else x87 else bif x93 then x566.1 else x87 else x87
 let x568:=bif x12 then bif x3 then x88 else bif x37 then bif x38 then x565.2 else x88 else bif x93 then x566.2 else x88 else x88
 let x569:=Zba (x513,x516,x519,x522,x525,x528,x531,x534,x537,x540,x543,x546,x549,x552,x555,x558,x561,x564,x567,x568) x95 a.2.2.2.1.2.2.2.1.2.2.1
 let x570:=x569.2
 let x571:=x570.2
 let x572:=x571.2
 let x573:=x572.2
 let x574:=x573.2
 let x575:=x574.2
 let x576:=x575.2
 let x577:=x576.2
 let x578:=x577.2
 let x579:=x578.2
 let x580:=x579.2
 let x581:=x580.2
 let x582:=x581.2
 let x583:=x582.2
 let x584:=x583.2
 let x585:=x584.2
 let x586:=x585.2
 let x587:=x586.2
 let x588:=x360.1
 let x589:=x588.2
 let x590:ITMT:=R.get Zkc x165 x143
 let x591:=setI x123 x143 (x158,x160,x162,i64.wrap (x163.1+1),x164)
 .br (decide (a.2.2.1<a.2.1)) (.br (orR p87 x5) (.br (orR p86 x510) (.br (orR p85 x508) (.br (orR p83 x506) (.br (orR p80 x504) (.br (orR p78 x502) (.br (orR p76 x500) (.br (orR p74 x498) (.br (orR p73 x496) (.br (orR p71 x494) (.br (orR p69 x492) (.br (orR p67 x490) (.br (orR p63 x488) (.br (orR p61 x486) (.br (orR p59 x484) (.br (orR p57 x482) (.br (orR p56 x480) (.br (orR p54 x478) (.br (orR p51 x476) (.br (orR p49 x474) (.br (orR p42 x472) (.br (orR p40 x470) (.br (orR p36 x468) (.br (orR p29 x466) (.br (orR p24 x464) (.br (orR p16 x462) (.br (orR p11 x460) (.br (orR p2 x458) (.br (!Zf a.2.2.1 (List.length a.1)||(x453||(x455||x456))) (.br (!Zf a.2.2.1 (List.length a.1)||(x453||x454)) (.br (!Zf a.2.2.1 (List.length a.1)||x452) (.br (Zf a.2.2.1 (List.length a.1)) (.Lf (some (Go1.cont (a.1,a.2.1,i64.wrap (a.2.2.1+1),x270,bif x109 then ZaK a.2.2.2.2.2.2.2.2.1.2.1 x110 x366 x367 else x110,(bif x16 then bif a.2.2.2.1.2.2.2.1.1 !=7 then x513 else bif x93 then x569.1 else x513 else x513,bif x16 then bif a.2.2.2.1.2.2.2.1.1 !=7 then x516 else bif x93 then x570.1 else x516 else x516,bif x16 then bif a.2.2.2.1.2.2.2.1.1 !=7 then x519 else bif x93 then x571.1 else x519 else x519,bif x16 then bif a.2.2.2.1.2.2.2.1.1 !=7 then x522 else bif x93 then x572.1 else x522 else x522,bif x16 then bif a.2.2.2.1.2.2.2.1.1 !=7 then x525 else bif x93 then x573.1 else x525 else x525,bif x16 then bif a.2.2.2.1.2.2.2.1.1 !=7 then x528 else bif x93 then x574.1 else x528 else x528,bif x16 then bif a.2.2.2.1.2.2.2.1.1 !=7 then x531 else bif x93 then x575.1 else x531 else x531,bif x16 then bif a.2.2.2.1.2.2.2.1.1 !=7 then x534 else bif x93 then x576.1 else x534 else x534,bif x16 then bif a.2.2.2.1.2.2.2.1.1 !=7 then x537 else bif x93 then x577.1 else x537 else x537,bif x16 then bif a.2.2.2.1.2.2.2.1.1 !=7 then x540 else bif x93 then x578.1 else x540 else x540,bif x16 then bif a.2.2.2.1.2.2.2.1.1 !=7 then x543 else bif x93 then x579.1 else x543 else x543,bif x16 then bif a.2.2.2.1.2.2.2.1.1 !=7 then x546 else bif x93 then x580.1 else x546 else x546,bif x16 then bif a.2.2.2.1.2.2.2.1.1 !=7 then x549 else bif x93 then x581.1 else x549 else x549,bif x16 then bif a.2.2.2.1.2.2.2.1.1 !=7 then x552 else bif x93 then x582.1 else x552 else x552,bif x16 then bif a.2.2.2.1.2.2.2.1.1 !=7 then x555 else bif x93 then x583.1 else x555 else x555,bif x16 then bif a.2.2.2.1.2.2.2.1.1 !=7 then x558 else bif x93 then x584.1 else x558 else x558,bif x16 then bif a.2.2.2.1.2.2.2.1.1 !=7 then x561 else bif x93 then x585.1 else x561 else x561,bif x9 then 0 else bif x16 then bif a.2.2.2.1.2.2.2.1.1 !=7 then x564 else bif x93 then x586.1 else x564 else x564,bif x16 then bif a.2.2.2.1.2.2.2.1.1 !=7 then x567 else bif x93 then x587.1 else x567 else x567,bif x16 then bif a.2.2.2.1.2.2.2.1.1 !=7 then x568 else bif x93 then x587.2 else x568 else x568),(bif x109 then x588.1 else x104,bif x109 then x589.1 else x106,bif x9 then 0 else bif x109 then x589.2 else x107),x24,a.2.2.2.2.2.2.2.2.1,a.2.2.2.2.2.2.2.2.2.1,(bif x362 then x371 else x371,(bif x362 then x375 else x375,bif x362 then x378 else x378,bif x362 then x381 else x381,bif x362 then x384 else x384,bif x362 then x387 else x387,bif x362 then x390 else x390,bif x362 then x393 else x393,(bif x362 then x398 else x398,bif x362 then x401 else x401,bif x362 then x404 else x404,bif x362 then x407 else x407,bif x362 then x410 else x410,bif x362 then x413 else x413,bif x362 then x414 else x414),bif x362 then x417 else x417,bif x362 then x418 else x418),bif x362 then x421 else x421,bif x362 then x424 else x424,bif x362 then x427 else x427,bif x362 then x430 else x430,bif x362 then x433 else x433,bif x362 then x436 else x436,bif x362 then x439 else x439,bif x362 then x442 else x442,bif x362 then x445 else x445,bif x362 then x448 else x448,bif x362 then x449 else x449),bif x16 then bif a.2.2.2.1.2.2.2.1.1 !=7 then a.2.2.2.2.2.2.2.2.2.2.2.1 else x19 else a.2.2.2.2.2.2.2.2.2.2.2.1,x114,bif x121 then x136 else bif x139 then setI x123 x143 (x158,x160,i64.wrap (x162+1),x163) else bif x153 then setI x165 x143 (x590.1,x131,x590.2.2) else bif x168 then bif x170 then bif x175 then x591 else x177 else x177 else bif x185 then bif x170 then bif x187 then x591 else x188 else x188 else bif x196 then bif x170 then bif x198 then x591 else x199 else x199 else x123,bif x362 then x368 else x364,bif x362 then x450 else x370,PUnit.unit)))) (.Lf none)) (.Lf none)) (.Lf none)) (.Lf none)) (.Lf none)) (.Lf none)) (.Lf none)) (.Lf none)) (.Lf none)) (.Lf none)) (.Lf none)) (.Lf none)) (.Lf none)) (.Lf none)) (.Lf none)) (.Lf none)) (.Lf none)) (.Lf none)) (.Lf none)) (.Lf none)) (.Lf none)) (.Lf none)) (.Lf none)) (.Lf none)) (.Lf none)) (.Lf none)) (.Lf none)) (.Lf none)) (.Lf none)) (.Lf none)) (.Lf none)) (.Lf none)) (.Lf (some (Go1.brk (a.1,a.2.1,a.2.2.1,a.2.2.2.1,a.2.2.2.2.1,a.2.2.2.2.2.1,a.2.2.2.2.2.2.1,a.2.2.2.2.2.2.2.1,a.2.2.2.2.2.2.2.2.1,a.2.2.2.2.2.2.2.2.2.1,a.2.2.2.2.2.2.2.2.2.2.1,a.2.2.2.2.2.2.2.2.2.2.2.1,x113,x123,x258,x262,PUnit.unit))))
def ZFL:Ora:=ZbI false ZRY Zc4 (λa=>1000000000000)
theorem ZIg:Zbg (envX prog [(48,Zg6),(74,Zj5),(75,Zbi),(76,Zbn),(77,Za0)] [] 2047 8) (.block 0 (.loop (Z7 Tryz.f23.body 0))) ZFL:=
 loopP ⟨ZhY,Zk5,Zcb,Zcd,ZbQ,Tv⟩
def Zrp (b:BRDT) (l:List Int):RT (Option (RUNT×Int)):=
 let x1:TC:=(0,(0,0,0,0,0,0,0,(false,false,false,false,false,false,false),0,0),false,false,false,0,false,false,false,false,false,false,false)
 let x2:CORT:=(x1,0,[],(0,0,0,0),0,false)
 let x3:PICT:=(0,false,false,false,false,0,0,false,false,false,false,false,0,0,0,0,0,0,0,false)
 let x4:SYST:=(x2,[],x3,(0,0,0),0,[])
 let x5:List INPT×Int×Int×CORT×List (Int×Int)×PICT×(QT4)×Int×BRDT×SYST×TC×List (Int×Int)×List PINT×List ITMT×List EVTT×List TC×PUnit:=(decX l,iN (List.length (decX l)),0,x2,[],x3,(0,0,0),0,b,x4,x1,[],[],[],[],[],())
 let x6:=runF false Zc4 (λa=>1000000000000) x5
 let x7:QT14:=(getO (false,x5) x6).2.2.2.2
 let x8:=x7.1
 let x9:=Zuj x8
 let x10:= !x9
 let x11:=x8.2
 let x12:=x11.2.1
 let x13:=Nat.ble (List.length x12) most
 let x14:= !x13
 let x15:=x7.2
 let x16:=x15.2
 let x17:=x16.2
 let x18:=x17.2
 let x19:=x18.2.2.2
 let x20:=x19.2
 let x21:=x20.2
 let x22:=x21.2
 let x23:=x22.2
 let x24:=x23.1
 let x25:QT26:=((false,false,false,false,false,false,false,false,false),false,false,false,false,0,0)
 let x26:List EVTT:=x24++[(7,x11.1,x12,x25)]
 let x27:=Nat.ble (List.length x26) most
 let x28:=x23.2.1
 let x29:List TC:=x28++[x19.1]
 let x30:=x10||(x14||(!x27||Nat.ble (List.length x29) most))
 let x31:= !x30
 let x32:=x10||(x14||x27)
 let x33:List INPT×Int×Int×CORT×List (Int×Int)×PICT×(QT4)×Int×BRDT×SYST×TC×List (Int×Int)×List PINT×List ITMT×List EVTT×List TC×PUnit:=(decX l,iN (List.length (decX l)),0,newX b.1,b.2.2.2.2.2.2,ZUq,(0,0,0),0,b,x4,(newX b.1).1,[],[],[],[],[],())
 let x34:=runF false Zc4 (λa=>1000000000000) x33
 let x35:QT14:=(getO (false,x33) x34).2.2.2.2
 let x36:=x35.1
 let x37:=Zuj x36
 let x38:= !x37
 let x39:=x36.2
 let x40:=x39.2.1
 let x41:=Nat.ble (List.length x40) most
 let x42:= !x41
 let x43:=x35.2
 let x44:=x43.2
 let x45:=x44.2
 let x46:=x45.2
 let x47:=x46.2.2.2
 let x48:=x47.2
 let x49:=x48.2
 let x50:=x49.2
 let x51:=x50.2
 let x52:=x51.1
 let x53:List EVTT:=x52++[(7,x39.1,x40,x25)]
 let x54:=Nat.ble (List.length x53) most
 let x55:=x51.2.1
 let x56:List TC:=x55++[x47.1]
 let x57:=x38||(x42||(!x54||Nat.ble (List.length x56) most))
 let x58:= !x57
 let x59:=x38||(x42||x54)
 .br (!Zf3 b||(Ze7 b !=0||Nat.ble (List.length b.2.2.2.2.2.2) most)) (.br (Zf3 b) (.br (Ze7 b !=0) (.br (Ze7 b !=0) (.Lf (some ((([],[],[],[],x4),Ze7 b)))) (.br (Zzw l) (.br (okB x6) (.br (x31||(!x32||(x10||x13))) (.br (x31||x32) (.br (x30) (.Lf (some (((x21.1,x22.1,bif x9 then x26 else x24,bif x9 then x29 else x28,x8,x15.1,x16.1,x17.1,x18.1,x20.1),0)))) (.Lf none)) (.Lf none)) (.Lf none)) (.Lf none)) (.Lf none))) (.br (Zzw l) (.br (okB x34) (.br (x58||(!x59||(x38||x41))) (.br (x58||x59) (.br (x57) (.Lf (some (((x49.1,x50.1,bif x37 then x53 else x52,bif x37 then x56 else x55,x36,x43.1,x44.1,x45.1,x46.1,x48.1),0)))) (.Lf none)) (.Lf none)) (.Lf none)) (.Lf none)) (.Lf none))) (.Lf none)) (.Lf none)
def ZRZ (b:BRDT) (l:List Int):RUNT×Int:=getO Zu2.Df (Zrp b l).val
def ZFM (b:BRDT) (l:List Int):Bool:=okB (Zrp b l).val
def ZTd:En:=Zg ZCB Zu2 (λa=>some (ZFM a.1 a.2)) (λa=>ZRZ a.1 a.2)
theorem ZFK:Zb prog 23 ZTd:=
 pureP 2047 [(48,Zg6),(74,Zj5),(75,Zbi),(76,Zbn),(77,Za0)] [(0,ZFL)] ZCB Zu2 ⟨ZhY,Zk5,Zcb,Zcd,ZbQ,Tv⟩ Tryz.func23 Tryz.call23 ⟨ZIg,Tv⟩ (t:=λa=>Zrp a.1 a.2)
abbrev ZNS:List Sh:=[Sh.one (R.sl (R.Pq (R.int u8) (R.int u8))),Sh.one (R.sl (R.Pq (R.int u8) (R.int u8)))]
abbrev ZCe:Rs:=Rs.one (Sh.one R.bool)
def ZRl:LS:={n:=26,Sl:=[(0,.code (Sh.one (R.sl (R.Pq (R.int u8) (R.int u8))))),(1,.code (Sh.one (R.sl (R.Pq (R.int u8) (R.int u8))))),(4,.code (Sh.one R.bool)),(12,.code (Sh.one (R.int i64))),(13,.code (Sh.one (R.int i64)))],Bx:=[],Sg:=[]}
def Zjy (a:List (Int×Int)×List (Int×Int)×Bool×Int×Int×PUnit):RT (Option (Go1 (List (Int×Int)×List (Int×Int)×Bool×Int×Int×PUnit))):=
 let x1:= !Zf a.2.2.2.2.1 (List.length a.1)||Zf a.2.2.2.2.1 (List.length a.2.1)
 let x2:Int×Int:=R.get (R.Pq (R.int u8) (R.int u8)) a.1 a.2.2.2.2.1
 let x3:Int×Int:=R.get (R.Pq (R.int u8) (R.int u8)) a.2.1 a.2.2.2.2.1
 let x4:Int×Int×PUnit:=(a.2.2.2.1,a.2.2.2.2.1,PUnit.unit)
 .br (decide (a.2.2.2.2.1<a.2.2.2.1)) (.br (!x1||Zf a.2.2.2.2.1 (List.length a.1)) (.br (x1) (.br (!(x2.1==x3.1&&(x2.2==x3.2&&true))) (.Lf (some (Go1.ret (a.1,a.2.1,false,x4)))) (.Lf (some (Go1.cont (a.1,a.2.1,a.2.2.1,a.2.2.2.1,i64.wrap (a.2.2.2.2.1+1),PUnit.unit))))) (.Lf none)) (.Lf none)) (.Lf (some (Go1.brk (a.1,a.2.1,a.2.2.1,x4))))
def ZFl:Ora:=ZbI true ZRl Zjy (λa=>1000000000000)
theorem ZH1:Zbg (envX Tryz.prog [] [] 63 8) (.block 0 (.loop (Z7 Tryz.f107.body 0))) ZFl:=
 loopP trivial
def Zyn (a:List (Int×Int)) (b:List (Int×Int)):RT (Option (Bool)):=
 let x1:=runF true Zjy (λa_1=>1000000000000) (a,b,false,iN (List.length a),0,())
 let x2:=getO (false,a,b,false,iN (List.length a),0,()) x1
 .br (iN (List.length a) !=iN (List.length b)) (.Lf (some (false))) (.br (okB x1) (.br x2.1 (.Lf (some x2.2.2.2.1)) (.Lf (some (true)))) (.Lf none))
def ZRm (a:List (Int×Int)) (b:List (Int×Int)):Bool:=getO ZCe.Df (Zyn a b).val
def ZFm (a:List (Int×Int)) (b:List (Int×Int)):Bool:=okB (Zyn a b).val
def ZSZ:En:=Zg ZNS ZCe (λa=>some (ZFm a.1 a.2)) (λa=>ZRm a.1 a.2)
theorem ZRk:Zb Tryz.prog 107 ZSZ:=
 pureP 63 [] [(0,ZFl)] ZNS ZCe trivial Tryz.func107 Tryz.call107 ⟨ZH1,Tv⟩ (t:=λa=>Zyn a.1 a.2)
def ZNT (a:List Int) (b:List Int):RT (Bool):=
 .Lf (ByteArray.toList (ZvH a)==ByteArray.toList (ZvH b))
def ZS0 (a:List Int) (b:List Int):Bool:=(ZNT a b).val
end
end Go.Proofs.YtpnjbfjomebppaaGreat
open Go Go.S3 Go.Proofs Go.Proofs.Cells
namespace Go.Proofs.YtpnjbfjomebppaaGreat
noncomputable section
structure Rm (rg:List ZO) (m:List Cell) (outs:List (Int×Int)) (g:List Int):Prop where
 r:smG rg=true
 m:smC m=true
 o:∀x,Nat.ble (outs++[x]).length most=true
 g:∀x,Nat.ble (g++[x]).length most=true
theorem ZHZ (l:List (Int×Int)) (hl:l.length<=most):ZFm l l=true/\ZRm l l=true:=by
 have hms:=mst;obtain⟨r,hr,h1⟩:=ZC (fl:=true) (t:=Zjy) (fuel:=λ_=>1000000000000)
  (λa=>∃i:Nat,i<=l.length/\a=(l,l,false,(l.length:Int),(i:Int),()))
  (λa=>Int.toNat (a.2.2.2.1-a.2.2.2.2.1)) (λr=>r.1=false)
  (by
   rintro a ⟨i,hi,rfl⟩;by_cases hlt:i<l.length
   ·left;have d:decide ((i:Int)<(l.length:Int))=true:=by simpa using hlt
    have r1:=ZaD l i hlt;refine⟨_,?_,⟨i+1,hlt,rfl⟩,by simp only;omega⟩;simp only[Zjy,RT.val,d,r1,Ya,Yf,Yi,ZhH i (by omega),Yau,YQ,Yc]
   ·right;left;have d:decide ((i:Int)<(l.length:Int))=false:=by simpa using hlt
    exact⟨(l,l,false,(l.length:Int),(i:Int),()),by simp only[Zjy,RT.val,d,Yc],rfl⟩)
  (l,l,false,iN l.length,0,()) ⟨0,Yu _,rfl⟩ (by simp only[iN];omega)
 have hv:(Zyn l l).val=some true:=by
  have hn:(iN l.length !=iN l.length)=false:=by simp
  simp only[Zyn,RT.val,hn,hr,okB,getO,h1,Ya,Yc]
 exact⟨by simp only[ZFm,hv];rfl,by simp only[ZRm,hv,getO]⟩
theorem ZCd (g:List Int):ZS0 g g=true:=by simp[ZS0,ZNT,RT.val]
abbrev Zu8:List Sh:=[Sh.agg (R.Pq (R.Pq ZY (R.Pq (R.int i64) (R.Pq (R.sl (R.int u8)) (R.Pq (RY) (R.Pq (R.int i64) R.bool))))) (R.Pq rcCE (R.Pq ZaE (R.Pq (R.Pq (R.int u16) (R.Pq (R.int u8) (R.int i64))) (R.Pq (R.int i64) (R.sl (R.Pq (R.int u8) (R.int u8)))))))),Sh.agg (R.Pq (R.Pq ZY (R.Pq (R.int i64) (R.Pq (R.sl (R.int u8)) (R.Pq (RY) (R.Pq (R.int i64) R.bool))))) (R.Pq rcCE (R.Pq ZaE (R.Pq (R.Pq (R.int u16) (R.Pq (R.int u8) (R.int i64))) (R.Pq (R.int i64) (R.sl (R.Pq (R.int u8) (R.int u8))))))))]
abbrev Zmj:Rs:=Rs.one (Sh.one R.bool)
def ZiA (a:SYST) (b:SYST):RT (Option (Bool)):=
 let x19:=(R.eqf ZaE a.2.2.1 b.2.2.1 true)
 let x20:=(R.eqf ZPR a.2.2.2.1 b.2.2.2.1 true)
 let p1:=(!a.2.2.2.2.1==b.2.2.2.2.1)::(!x20)::(!x19)::(!decide (a.2.1=b.2.1))::(!ZzI a.1 b.1)::(!(!ZzI a.1 b.1||smC a.2.1))::[]
 .br (orR p1 (ZFm a.2.2.2.2.2 b.2.2.2.2.2)) (.br (!ZzI a.1 b.1||smC a.2.1) (.Lf (some (ZzI a.1 b.1&&(decide (a.2.1=b.2.1)&&(x19&&(x20&&(a.2.2.2.2.1==b.2.2.2.2.1&&ZRm a.2.2.2.2.2 b.2.2.2.2.2))))))) (.Lf none)) (.Lf none)
def Zmk (a:SYST) (b:SYST):Bool:=getO Zmj.Df (ZiA a b).val
def ZiB (a:SYST) (b:SYST):Bool:=okB (ZiA a b).val
def Zrx:En:=Zg Zu8 Zmj (λa=>some (ZiB a.1 a.2)) (λa=>Zmk a.1 a.2)
theorem Zp0:Zb prog 52 Zrx:=
 pureP 31 [(34,ZDq),(106,ZSj),(107,ZSZ)] [] Zu8 Zmj ⟨ZGf,ZPU,ZRk,Tv⟩ Tryz.func52 Tryz.call52 trivial (t:=λa=>ZiA a.1 a.2)
abbrev ZSY:List Sh:=[]
abbrev ZNQ:Rs:=Rs.one (Sh.one R.bool)
def ZRi:RT (Option (Bool)):=
 let x1:=rep (false,false,false,false,false,false,false,false,0,0) (Int.toNat 0)
 let x2:=Zlz x1
 let x3:BRDT:=(1,[(0,65535,true,1)],0,0,0,false,[])
 let x4:=Zh1 x1
 let x5:=ZRZ x3 x4
 let x6:= !x5.2==0
 let x7:= !iN (List.length x5.1.1)==0
 let x8:=ZRZ x3 (rep 0 (Int.toNat 24))
 let x9:= !x8.2==0
 let x10:=x8.1.1
 let x11:Nat:=List.length x10
 let x12:= !iN x11==6
 let p1:=x12::x9::x7::x6::[]
 let x13:=orR p1 (Zf 2 x11)
 let p2:=(!(R.get Zia x10 2).1==7)::x12::x9::x7::x6::(!x13)::[]
 .br (!x2||ZFM x3 x4) (.br (x2) (.br (ZFM x3 (rep 0 (Int.toNat 24))) (.br (orR p2 (Zf 5 x11)) (.br (x13) (.Lf (some (true))) (.Lf none)) (.Lf none)) (.Lf none)) (.Lf none)) (.Lf none)
def kKn5:Bool:=getO ZNQ.Df (ZRi).val
def ZRj:Bool:=okB (ZRi).val
def ZVE:En:=Zg ZSY ZNQ (λa=>some (ZRj)) (λa=>kKn5)
theorem ZNP:Zb prog 45 ZVE:=
 pureP 63 [(23,ZTd),(56,ZCL)] [] ZSY ZNQ ⟨ZFK,ZFW,Tv⟩ Tryz.func45 Tryz.call45 trivial (t:=λa=>ZRi)
def ZeZ:En:=.tree (Zr (envX prog [] [] 7 8) Tryz.f31)
theorem ZhJ:Zb prog 31 ZeZ:=ZL (P:=prog) (n:=7) (k:=8) (l:=[]) (ol:=[]) trivial Tryz.func31 rfl (by kernel_rfl) Tryz.call31 trivial
abbrev ZFk:List Sh:=[Sh.one (R.sl (R.int i64)),Sh.one (R.int i64)]
abbrev ZuF:Rs:=Rs.tup [Sh.agg (R.Pq (R.int i64) (R.Pq rcRG (R.Pq (R.int i64) (R.Pq (R.int u8) (R.Pq (R.int u8) (R.Pq R.bool rcCE)))))),Sh.one (R.sl (R.int u8))]
def Zo6 (n:List Int) (k:Int):RT (Option (BRDT×List Int)):=
 .br (ZoR (n,0)) (.br (Zl1 (ZcA (n,0)).2 k) (.Lf (some (((ZcA (n,0)).1,(ZgO (ZcA (n,0)).2 k).1)))) (.Lf none)) (.Lf none)
def Zav (n:List Int) (k:Int):BRDT×List Int:=getO ZuF.Df (Zo6 n k).val
def ZkE (n:List Int) (k:Int):Bool:=okB (Zo6 n k).val
def ZCb:En:=Zg ZFk ZuF (λa=>some (ZkE a.1 a.2)) (λa=>Zav a.1 a.2)
theorem Zyj:Zb prog 46 ZCb:=
 pureP 255 [(31,ZeZ),(66,ZNq),(67,ZE0)] [] ZFk ZuF ⟨ZhJ,ZNo,ZHJ,Tv⟩ Tryz.func46 Tryz.call46 trivial (t:=λa=>Zo6 a.1 a.2)
theorem lval9 {t:RT (Option Bool)} (h:t.val=some true):okB t.val=true/\getO false t.val=true:=by rw[h];exact⟨rfl,rfl⟩
theorem ZNL:ZRj=true/\kKn5=true:=lval9 (t:=ZRi) (by kernel_rfl)
theorem Zvi (b:BRDT) (hg:smG b.2.1=true) (hm:smC b.2.2.2.2.2.2=true) (h:ZbM b=0):vldB b.2.2.2.2.2.2=true:=by
 have hv:(Zfw b).val=some (bif b.1 !=1&&b.1 !=2 then 1 else bif ZbS b.2.1 !=0 then ZbS b.2.1 else bif decide (b.2.2.1<0)||(decide (b.2.2.1>100)|| !vldB b.2.2.2.2.2.2) then 1 else 0):=by
  unfold Zfw;simp only[RT.val,hg,hm,Yh,Ya];cases b.1 !=1&&b.1 !=2
  ·cases ZbS b.2.1 !=0
   ·cases decide (b.2.2.1<0)||(decide (b.2.2.1>100)|| !vldB b.2.2.2.2.2.2)<;>rfl
   ·rfl
  ·rfl
 simp only[ZbM,hv,getO] at h;cases hx:vldB b.2.2.2.2.2.2
 ·rw[hx] at h;simp only[Ym,Yh,Ya] at h;cases h1:b.1 !=1&&b.1 !=2
  ·rw[h1] at h;cases h2:ZbS b.2.1 !=0
   ·rw[h2] at h;simp at h
   ·rw[h2] at h;simp only[Ya,Yc] at h;rw[h] at h2;simp at h2
  ·rw[h1] at h;simp at h
 ·rfl
theorem ZXs (b:BRDT) (hg:smG b.2.1=true) (hm:b.2.2.2.2.2.2.length<=100000):ZPc b=true/\ZFO b=true/\ZCE b=wNew b/\Ze7 b=ZbM b/\Zf3 b=true/\ZjU b=true:=by
 have hms:=mst;have hc:=smCb (l:=b.2.2.2.2.2.2) (by omega);have hb:Nat.ble (List.length b.2.2.2.2.2.2) most=true:=ZV (by omega);have hw:=Ziz b hg hc;obtain⟨e1,e2⟩:=Zro b;rw[hw] at e2;have hv:(Zrq b).val=(ZrA b).val:=by
  cases hx:ZbM b !=0
  ·have h0:ZbM b=0:=by simpa using hx
   have hn:=Zfl (Zg9.1 (Zvi b hg hc h0));simp only[Zrq,ZrA,RT.val,e1,e2,hw,hx,hb,hc,hn,Ya,Yc]
  ·simp only[Zrq,ZrA,RT.val,e1,e2,hw,hx,Ya]
 have hC:=(ZjV b hg hm).1;refine⟨hC,?_,by simp only[ZCE,wNew,hv],e1,e2,hw⟩;simp only[ZFO,hv];exact hC
theorem ZJH (c:CORT):ZzI c c=true:=by simp[ZzI,ZJ7,RT.val]
theorem eqf_refl:∀(r:R) (x:r.den) (e:Bool),R.eqf r x x e=e
 | .int _,x,e=>by show (((x:Int)==x)&&e)=e;rw[Yau,YK]
 | .bool,x,e=>by show (((x:Bool)==x)&&e)=e;rw[Yau,YK]
 | .Pq a b,x,e=>by show a.eqf x.1 x.1 (b.eqf x.2 x.2 e)=e;rw[eqf_refl b,eqf_refl a]
 | .str,_,e=>rfl
 | .sl _,_,e=>rfl
 | .unit,_,e=>rfl
theorem ZDc (a:SYST) (hm:a.2.1.length<=1000000) (ho:a.2.2.2.2.2.length<=1000000):ZiB a a=true/\Zmk a a=true:=by
 have hms:=mst;obtain⟨j1,j2⟩:=ZHZ a.2.2.2.2.2 (by omega);have hc:smC a.2.1=true:=smCb hm;have e1:R.eqf ZaE a.2.2.1 a.2.2.1 true=true:=eqf_refl _ _ _;have e2:R.eqf ZPR a.2.2.2.1 a.2.2.2.1 true=true:=eqf_refl _ _ _;have hv:(ZiA a a).val=some true:=by simp only[ZiA,RT.val,j1,j2,hc,e1,e2,ZJH,decide_true,Yau,ZaM,Zae,Yh,Yf,Yar,YQ,Ya]
 exact⟨by simp only[ZiB,hv,okB],by simp only[Zmk,hv,getO]⟩
theorem ZPH (n:List Int) (k:Nat) (hk:k<=250):ZkE n (k:Int)=true/\smG (Zav n (k:Int)).1.2.1=true/\(Zav n (k:Int)).1.2.2.2.2.2.2.length<=200/\(Zav n (k:Int)).2.length<=4*k/\(Zav n (k:Int)).1=(ZcA (n,0)).1:=by
 obtain⟨c1,b1,⟨s1,bs1,hr⟩,hch,_,l,hl,hi⟩:=ZxW (ZOe n) (by omega);obtain⟨c2,_,l2⟩:=ZBW bs1 (by omega);obtain⟨c3,b3,l3,_⟩:=ZHK b1 (by omega) k hk;have hv:(Zo6 n (k:Int)).val=some ((ZcA (n,0)).1,(ZgO (ZcA (n,0)).2 (k:Int)).1):=by simp only[Zo6,RT.val,c1,c3,Ya]
 have e:Zav n (k:Int)=((ZcA (n,0)).1,(ZgO (ZcA (n,0)).2 (k:Int)).1):=by simp only[Zav,hv,getO]
 refine⟨by simp only[ZkE,hv,okB],?_,?_,?_,by rw[e]⟩
 ·rw[e,hr];exact smGb (by omega)
 ·rw[e];show (ZcA (n,0)).1.2.2.2.2.2.2.length<=200;rw[hi];exact YS (Zep l) hl
 ·rw[e];exact l3
def EvB (ev:List EVTT) (n:Nat):Prop:=∀e∈ev,e.2.2.1.length<=n
variable {ev:List EVTT} {n:Nat}
theorem EvB.app (h:EvB ev n) {e:EVTT} (he:e.2.2.1.length<=n):EvB (ev++[e]) n:=λx hx=>by
 rcases Yad.1 hx with hx|hx
 ·exact h x hx
 ·rw[List.mem_singleton] at hx;subst hx;exact he
theorem EvB.mono {m:Nat} (h:EvB ev n) (hn:n<=m):EvB ev m:=λe he=>YS (h e he) hn
def cyA:TC->List EVTT->List TY
 |_,[]=>[]
 |c,e::l=>ZV6 c e++cyA (ZFS c e) l
def cyI (l:List ITMT):List TY:=(l.filter λy=>y.1==1&&decide (y.2.2.2.1>=3)).map λy=>y.2.1
def unl (c:TC):Int×(Int×Int×Int×Int×Int×Int×Int×(Bool×Bool×Bool×Bool×Bool×Bool×Bool)×Int×Int)×Bool×Bool×Bool×Int×Bool×Bool×Bool:=(c.1,c.2.1,c.2.2.1,c.2.2.2.1,c.2.2.2.2.1,c.2.2.2.2.2.1,c.2.2.2.2.2.2.2.2.2.2)
structure Sem (s0:TC) (c:CORT) (ev:List EVTT) (cp:List TC) (it:List ITMT):Prop where
 hcp:cp=ZWC s0 ev
 un:unl c.1=unl (Zcq (ZVC s0 ev) c.2.1)
 nx:1<=c.2.2.2.2.1/\c.2.2.2.2.1<=9
 rest:c.2.1=0->c.1.2.2.2.2.1=true->(c.2.2.2.2.1=8\/c.2.2.2.2.1=9)/\c.2.2.1=[]
 nine:c.2.2.2.2.1=9->c.2.1=0/\c.1.2.2.2.2.1=true
 cy:(c.2.2.2.2.1<4\/6<c.2.2.2.2.1)->c.2.2.2.1=(Zh c.1 c.2.1 c.2.2.1).1/\(Zh c.1 c.2.1 c.2.2.1).2=true
 hit:cyI it=cyA s0 ev++cyX (Zcq (ZVC s0 ev) c.2.1) c.2.1 [] c.2.2.1
 ln:(cyX (Zcq (ZVC s0 ev) c.2.1) c.2.1 [] c.2.2.1).length=c.2.2.1.length
 pt:(c.2.2.2.2.1=2\/c.2.2.2.2.1=3\/c.2.2.2.2.1=7)->∃(l:List ITMT) (y:ITMT),it=l++[y]/\y.1=1/\y.2.2.2.1=(bif c.2.2.2.2.1==2 then 1 else 2)
 ps:4<=c.2.2.2.2.1->c.2.2.2.2.1<=6->∃(l:List ITMT) (y:ITMT),it=l++[y]/\y.1=1/\y.2.2.2.1=c.2.2.2.2.1-1/\y.2.1=c.2.2.2.1
theorem ZXG (k t:Int) (x:TY) (d:Int) (i o:Bool):Ze6 (ZpP k t x d i o)=(t==8):=by
 unfold ZpP Zv7 Ze6;simp only[RT.val];cases h8:t==8
 ·cases t==9
  ·cases t==10
   ·cases rOn k<;>rfl
   ·rfl
  ·rfl
 ·rfl
variable {c:CORT}
theorem Znm {l:LINT} {d:Int} (h:Ze6 (Zcr c l d)=true):l.2.2.1=false/\Zaf c.2.2.2.2.1=8:=by
 unfold Zcr at h;rw[ZXG] at h;cases hl:l.2.2.1
 ·rw[hl] at h;simp at h;exact⟨rfl,h⟩
 ·rw[hl] at h;simp at h
theorem ZSS (b:BRDT) (hg:smG b.2.1=true) (hm:b.2.2.2.2.2.2.length<=100000) (hx:((wNew b).2 !=0)=false):wNew b=(newS b,0):=by
 have hv:(ZrA b).val=some (bif ZbM b !=0 then (Zmh,ZbM b) else ((newS b),0)):=by unfold ZrA;have hc:=smCb (l:=b.2.2.2.2.2.2) (by omega);simp only[RT.val,Ziz b hg hc,hc,Ya];cases ZbM b !=0<;>rfl
 have hx':(ZbM b !=0)=false:=by
  cases hq:ZbM b !=0
  ·rfl
  ·exfalso;simp only[wNew,hv,getO,hq,Ya] at hx;simp at hx
 simp only[wNew,hv,getO,hx',Yc]
abbrev ZzF:Rs:=Rs.one (Sh.one R.bool)
def ZeT (a:List PINT×List PINT×Bool×Int×Int×PUnit):RT (Option (Go1 (List PINT×List PINT×Bool×Int×Int×PUnit))):=
 let x1:= !Zf a.2.2.2.2.1 (List.length a.1)||Zf a.2.2.2.2.1 (List.length a.2.1)
 let x2:PINT:=R.get Zia a.1 a.2.2.2.2.1
 let x3:PINT:=R.get Zia a.2.1 a.2.2.2.2.1
 let x34:Int×Int×PUnit:=(a.2.2.2.1,a.2.2.2.2.1,PUnit.unit)
 .br (decide (a.2.2.2.2.1<a.2.2.2.1)) (.br (!x1||Zf a.2.2.2.2.1 (List.length a.1)) (.br (x1) (.br (!(R.eqf Zia x2 x3 true)) (.Lf (some (Go1.ret (a.1,a.2.1,false,x34)))) (.Lf (some (Go1.cont (a.1,a.2.1,a.2.2.1,a.2.2.2.1,i64.wrap (a.2.2.2.2.1+1),PUnit.unit))))) (.Lf none)) (.Lf none)) (.Lf (some (Go1.brk (a.1,a.2.1,a.2.2.1,x34))))
def Zhn (a:List PINT) (b:List PINT):RT (Option (Bool)):=
 let x1:=runF true ZeT (λa_1=>1000000000000) (a,b,false,iN (List.length a),0,())
 let x2:=getO (false,a,b,false,iN (List.length a),0,()) x1
 .br (iN (List.length a) !=iN (List.length b)) (.Lf (some (false))) (.br (okB x1) (.br x2.1 (.Lf (some x2.2.2.2.1)) (.Lf (some (true)))) (.Lf none))
def Zeh (a:List PINT) (b:List PINT):Bool:=getO ZzF.Df (Zhn a b).val
def Zdg (a:List PINT) (b:List PINT):Bool:=okB (Zhn a b).val
theorem ZLe (c:TC) (l:LINT):0<=Zei c l/\Zei c l<=5:=by
 have hv:∃k,(ZDz c l).val=k/\(0:Int)<=k/\k<=5:=by
  simp only[ZDz,RT.val,Bool.cond_eq_ite];repeat' split
  all_goals exact⟨_,rfl,by omega,by omega⟩
 obtain⟨k,hk,h0,h1⟩:=hv;simp only[Zei,hk];exact⟨h0,h1⟩
def ZIm (c:CORT):Prop:=0<=c.2.1/\c.2.1<=5
theorem ZJw (p:TC) (s:Int) (g:List Int) (h:Bool) (l:LINT) (hs:0<=s/\s<=5):ZIm (endX p s g h l):=by
 unfold endX;cases (Zh p s g).2
 ·exact ZLe _ _
 ·exact hs
theorem ZJx (c:CORT) (l:LINT) (d:Int) (hs:ZIm c):ZIm (Z2 c l d):=by
 unfold Z2;dsimp only;cases l.2.2.1
 ·cases Zaf c.2.2.2.2.1==1
  ·cases Zaf c.2.2.2.2.1==2||Zaf c.2.2.2.2.1==7
   ·cases Zaf c.2.2.2.2.1==8
    ·cases Zaf c.2.2.2.2.1==9
     ·cases Zaf c.2.2.2.2.1==3
      ·cases decide (Zaf c.2.2.2.2.1<c.2.2.2.1.2.2.2)&& !(Zaf c.2.2.2.2.1==6)
       ·exact ZJw _ _ _ _ _ hs
       ·exact hs
      ·cases le3 (ZdV (Zi c.1 l) c.2.2.2.1 d).2.2.2
       ·exact hs
       ·exact ZJw _ _ _ _ _ hs
     ·cases Zei (Zi c.1 l) l==0
      ·exact ZLe _ _
      ·exact hs
    ·exact hs
   ·cases l.1|| !Zad c.2.2.2.1.1<;>exact hs
  ·exact hs
 ·exact⟨Int.le_refl 0,(by decide:(0:Int)<=5)⟩
def kindP (s:Int):Int:=bif s==0 then 1 else bif s==5 then 2 else 3
theorem ZRh (h:ZIm c):kindP c.2.1=ZPe c.2.1:=by
 have h:=h;unfold ZIm at h;generalize c.2.1=s at h;have e:s=0\/s=1\/s=2\/s=3\/s=4\/s=5:=by omega
 rcases e with rfl|rfl|rfl|rfl|rfl|rfl<;>rfl
theorem ZJO (hn:1<=c.2.2.2.2.1/\c.2.2.2.2.1<=9):Zaf c.2.2.2.2.1=c.2.2.2.2.1:=by
 have h1:(decide (c.2.2.2.2.1<1)||decide (c.2.2.2.2.1>9))=false:=by simp;omega
 simp only[Zaf,h1,Yc]
theorem Zq7 (p:TC) (l:LINT):(Zi p l).1=p.1:=by simp only[Zi,ZzS,RT.val];cases rOn p.1<;>rfl
theorem ZXP (c:CORT) (l:LINT) (d:Int) (hn:1<=c.2.2.2.2.1/\c.2.2.2.2.1<=9) (hr:l.2.2.1=false):
  (ZaG c l d).1=(finS c l d).2/\((finS c l d).2=true->(ZaG c l d).2.1=(finS c l d).1/\(ZaG c l d).2.2.1=Zg5 c (Zp c) d)/\(ZaG c l d).2.2.2.1=Zag c (Zp c) d/\(ZaG c l d).2.2.2.2=Zi c.1 l:=by
 have hsx:=ZJO hn;have hst:Zp c=c.2.2.2.2.1:=hsx;rw[hst];obtain⟨p0,s,g,x,n,hd⟩:=c;simp only at hn hsx;have hchip:=Zq7 p0 l;have hne:∀k:Int,n=k->(k==3)=false->Zag (p0,s,g,x,n,hd) n d=x:=λk hk h3=>by simp only[Zag,Zvg,RT.val,hk,h3,Yc]
 have other:∀k:Int,n=k->(k==3)=false->(k==4||(k==5||k==6))=false->(∀y,ZwQ k y=false)->
   (ZaG (p0,s,g,x,n,hd) l d).1=(finS (p0,s,g,x,n,hd) l d).2/\((finS (p0,s,g,x,n,hd) l d).2=true->(ZaG (p0,s,g,x,n,hd) l d).2.1=(finS (p0,s,g,x,n,hd) l d).1/\(ZaG (p0,s,g,x,n,hd) l d).2.2.1=Zg5 (p0,s,g,x,n,hd) n d)/\(ZaG (p0,s,g,x,n,hd) l d).2.2.2.1=Zag (p0,s,g,x,n,hd) n d/\(ZaG (p0,s,g,x,n,hd) l d).2.2.2.2=Zi p0 l:=by
  intro k hk h3 h4 he;subst hk;have hch:ZaG (p0,s,g,x,n,hd) l d=(false,cpu0,[],x,Zi p0 l):=by unfold ZaG;simp only[hsx,h3,h4,YT,Yc]
  have hf:(finS (p0,s,g,x,n,hd) l d).2=false:=by unfold finS;simp only[hr,he,Ym,Ya,Yc]
  rw[hch,hf,hne n rfl h3];exact⟨rfl,λe=>by simp at e,rfl,rfl⟩
 have last:∀k:Int,n=k->(k==3)=false->(k==4||(k==5||k==6))=true->(∀y:TY,ZwQ k y= !(decide (k<y.2.2.2)&& !(k==6)))->
   (ZaG (p0,s,g,x,n,hd) l d).1=(finS (p0,s,g,x,n,hd) l d).2/\((finS (p0,s,g,x,n,hd) l d).2=true->(ZaG (p0,s,g,x,n,hd) l d).2.1=(finS (p0,s,g,x,n,hd) l d).1/\(ZaG (p0,s,g,x,n,hd) l d).2.2.1=Zg5 (p0,s,g,x,n,hd) n d)/\(ZaG (p0,s,g,x,n,hd) l d).2.2.2.1=Zag (p0,s,g,x,n,hd) n d/\(ZaG (p0,s,g,x,n,hd) l d).2.2.2.2=Zi p0 l:=by
  intro k hk h3 h4 he;subst hk;have hb3:(n !=3)=true:=by rw[bne,h3];rfl
  have hch:ZaG (p0,s,g,x,n,hd) l d=bif !(decide (n<x.2.2.2)&& !(n==6))&& !(Zh (Zi p0 l) s g).2 then (true,finX (Zi p0 l) s g l,g,x,Zi p0 l) else (false,cpu0,[],x,Zi p0 l):=by unfold ZaG;simp only[hsx,h3,h4,YK,Yc]
  have hf:finS (p0,s,g,x,n,hd) l d=bif decide (n<x.2.2.2)&& !(n==6) then (Zrt,false) else bif (Zh (Zi p0 l) s g).2 then (Zrt,false) else (finX (Zi p0 l) s g l,true):=by unfold finS rdS;simp only[hr,hb3,he,Bool.not_not,Ya,Yc]
  have hby:Zg5 (p0,s,g,x,n,hd) n d=g:=by unfold Zg5;simp only[h3,Yc]
  rw[hch,hf,hne n rfl h3,hby];cases decide (n<x.2.2.2)&& !(n==6)
  ·cases (Zh (Zi p0 l) s g).2
   ·exact⟨rfl,λ_=>⟨rfl,rfl⟩,rfl,rfl⟩
   ·exact⟨rfl,λe=>by simp at e,rfl,rfl⟩
  ·exact⟨rfl,λe=>by simp at e,rfl,rfl⟩
 have hcases:n=1\/n=2\/n=3\/n=4\/n=5\/n=6\/n=7\/n=8\/n=9:=by omega
 have ends45:∀k:Int,k=4\/k=5->∀y:TY,ZwQ k y= !(decide (k<y.2.2.2)&& !(k==6)):=λk hk y=>by
  have h6:(!(k==6))=true:=by rcases hk with rfl|rfl<;>rfl
  rw[h6,YY];have e:ZwQ k y=decide (y.2.2.2<=k):=by rcases hk with rfl|rfl<;>rfl
  rw[e];by_cases q:k<y.2.2.2
  ·rw[YA q,YV (by omega)];rfl
  ·rw[YV q,YA (by omega)];rfl
 rcases hcases with e|e|e|e|e|e|e|e|e
 ·exact other 1 e rfl rfl λ_=>rfl
 ·exact other 2 e rfl rfl λ_=>rfl
 ·subst e;generalize hx3:ZdV (Zi p0 l) x d=x3;have hx3':ZdV p0 x d=x3:=by rw[<-hx3];unfold ZdV;rw[hchip]
  have hcur:Zag (p0,s,g,x,3,hd) 3 d=x3:=by rw[<-hx3'];rfl
  have hrd:rdS (p0,s,g,x,3,hd) 3 d=(x3,g++[x3.2.2.1]):=by show (ZdV p0 x d,g++[(ZdV p0 x d).2.2.1])=_;rw[hx3']
  have hen:ZwQ 3 x3=le3 x3.2.2.2:=rfl;have hby:Zg5 (p0,s,g,x,3,hd) 3 d=g++[x3.2.2.1]:=by unfold Zg5;rw[hcur];rfl
  have hch:ZaG (p0,s,g,x,3,hd) l d=bif le3 x3.2.2.2&& !(Zh (Zi p0 l) s (g++[x3.2.2.1])).2 then (true,finX (Zi p0 l) s (g++[x3.2.2.1]) l,g++[x3.2.2.1],x3,Zi p0 l) else (false,cpu0,[],x3,Zi p0 l):=by unfold ZaG;simp only[hsx,hx3];rfl
  have hf:finS (p0,s,g,x,3,hd) l d=bif le3 x3.2.2.2 then (bif (Zh (Zi p0 l) s (g++[x3.2.2.1])).2 then (Zrt,false) else (finX (Zi p0 l) s (g++[x3.2.2.1]) l,true)) else (Zrt,false):=by unfold finS;simp only[hr,hrd,hen,Yc];cases le3 x3.2.2.2<;>rfl
  rw[hch,hf,hcur,hby];cases le3 x3.2.2.2
  ·exact⟨rfl,λe=>by simp at e,rfl,rfl⟩
  ·cases (Zh (Zi p0 l) s (g++[x3.2.2.1])).2
   ·exact⟨rfl,λ_=>⟨rfl,rfl⟩,rfl,rfl⟩
   ·exact⟨rfl,λe=>by simp at e,rfl,rfl⟩
 ·exact last 4 e rfl rfl (ends45 4 (.inl rfl))
 ·exact last 5 e rfl rfl (ends45 5 (.inr rfl))
 ·exact last 6 e rfl rfl λy=>by cases decide ((6:Int)<y.2.2.2)<;>rfl
 ·exact other 7 e rfl rfl λ_=>rfl
 ·exact other 8 e rfl rfl λ_=>rfl
 ·exact other 9 e rfl rfl λ_=>rfl
def ZxR (n:Int):Int:=bif n==2 then 1 else bif n==3||n==7 then 2 else n-1
def ZyZ (c:CORT) (it:List ITMT):Prop:=
 (1<=c.2.2.2.2.1/\c.2.2.2.2.1<=9)/\((c.2.2.2.2.1=8\/c.2.2.2.2.1=9\/c.2.2.2.2.1=1)\/∃l y,it=l++[y]/\y.2.1=c.2.2.2.1/\y.2.2.2.1=ZxR c.2.2.2.2.1)
theorem ZN7 (c:TC) (s:Int) (h:Bool):idlX c s h=8\/idlX c s h=9\/idlX c s h=1:=by
 unfold idlX;cases h
 ·cases c.2.2.2.2.1&&s==0
  ·exact .inr (.inr rfl)
  ·exact .inr (.inl rfl)
 ·exact .inl rfl
theorem Zjv (it:List ITMT) (h:c.2.2.2.2.1=8\/c.2.2.2.2.1=9\/c.2.2.2.2.1=1):ZyZ c it:=⟨by omega,.inl h⟩
theorem Zyh (p:TC) (s:Int) (g:List Int) (h:Bool) (l:LINT) (it:List ITMT):ZyZ (endX p s g h l) it:=by
 apply Zjv;unfold endX;cases (Zh p s g).2
 ·exact ZN7 _ _ _
 ·exact ZN7 _ _ _
theorem ZNI {it:List ITMT} (h:ZyZ c it) (l:LINT) (d:Int) (hr:l.2.2.1=false):ZyZ (Z2 c l d) (Zim it c (Zag c (Zp c) d) (Zp c)):=by
 obtain⟨hn,h⟩:=h;have hsx:=ZJO hn;have hst:Zp c=c.2.2.2.2.1:=hsx;rw[hst];obtain⟨p0,s,g,x,n,hd⟩:=c;simp only at hn hsx h;have get:∀k:Int,n=k->(k==8)=false->(k==9)=false->(k==1)=false->∃l y,it=l++[y]/\y.2.1=x/\y.2.2.2.1=ZxR k:=λk hk h8 h9 h1=>by
  subst hk;rcases h with (h|h|h)|h
  ·rw[h] at h8;simp at h8
  ·rw[h] at h9;simp at h9
  ·rw[h] at h1;simp at h1
  ·exact h
 have more:∀k:Int,n=k->(k=4\/k=5\/k=6)->ZyZ (Z2 (p0,s,g,x,n,hd) l d) (Zim it (p0,s,g,x,n,hd) (Zag (p0,s,g,x,n,hd) n d) n):=λk hk h4=>by
  subst hk;have b1:(n==1)=false:=by rcases h4 with rfl|rfl|rfl<;>rfl
  have b2:(n==2||n==7)=false:=by rcases h4 with rfl|rfl|rfl<;>rfl
  have b3:(n==3)=false:=by rcases h4 with rfl|rfl|rfl<;>rfl
  have b8:(n==8)=false:=by rcases h4 with rfl|rfl|rfl<;>rfl
  have b9:(n==9)=false:=by rcases h4 with rfl|rfl|rfl<;>rfl
  have hck:Z2 (p0,s,g,x,n,hd) l d=bif decide (n<x.2.2.2)&& !(n==6) then (Zi p0 l,s,g,x,n+1,hd) else endX (Zi p0 l) s g hd l:=by unfold Z2;simp only[hr,hsx,b1,b2,b3,b8,b9,Yc]
  rw[hck];cases hb:decide (n<x.2.2.2)&& !(n==6)
  ·exact Zyh _ _ _ _ _ _
  ·obtain⟨l',y,rfl,y1,y2⟩:=get n rfl b8 b9 b1;have h6:n≠6:=by simp at hb;exact hb.2
   refine⟨⟨by show 1<=n+1;omega,by show n+1<=9;omega⟩,.inr ⟨l',(y.1,x,y.2.2.1,n,y.2.2.2.2),?_,rfl,?_⟩⟩
   ·have e:ZxR n=n-1:=by rcases h4 with rfl|rfl|rfl<;>rfl
    rw[e] at y2;have w:IntKind.wrap .i64 (y.2.2.2.1+1)=n:=by rw[y2,wrap_i64 _ (by omega) (by omega)];omega
    rcases h4 with rfl|rfl|rfl
    ·show Zcz (l'++[y]) _=_;rw[ZbR,w];rfl
    ·show Zcz (l'++[y]) _=_;rw[ZbR,w];rfl
    ·exact absurd rfl h6
   ·show n=ZxR (n+1);rcases h4 with rfl|rfl|rfl
    ·rfl
    ·rfl
    ·exact absurd rfl h6
 have hcases:n=1\/n=2\/n=3\/n=4\/n=5\/n=6\/n=7\/n=8\/n=9:=by omega
 have wait:∀k:Int,k=3\/k=7->1<=k/\k<=9:=λk hk=>by omega
 rcases hcases with e|e|e|e|e|e|e|e|e
 ·subst e;have hck:Z2 (p0,s,g,x,1,hd) l d=(Zi p0 l,s,g,x,2,hd):=by unfold Z2;simp only[hr,hsx];rfl
  rw[hck];exact⟨by show (1:Int)<=2/\(2:Int)<=9;decide,.inr ⟨it,_,rfl,rfl,rfl⟩⟩
 ·subst e;obtain⟨l',y,rfl,y1,y2⟩:=get 2 rfl rfl rfl rfl;have hck:Z2 (p0,s,g,x,2,hd) l d=(Zi p0 l,s,g,x,bif l.1|| !Zad x.1 then 3 else 7,bif l.1|| !Zad x.1 then l.2.1 else hd):=by unfold Z2;simp only[hr,hsx];show (bif l.1|| !Zad x.1 then _ else _)=_;cases l.1|| !Zad x.1<;>rfl
  have w:IntKind.wrap .i64 (y.2.2.2.1+1)=2:=by rw[y2];rfl
  rw[hck];refine⟨wait _ (by cases l.1|| !Zad x.1<;>simp),.inr ⟨l',(y.1,x,y.2.2.1,2,y.2.2.2.2),?_,rfl,?_⟩⟩
  ·show Zcz (l'++[y]) _=_;rw[ZbR,w];rfl
  ·show (2:Int)=ZxR (bif l.1|| !Zad x.1 then 3 else 7);cases l.1|| !Zad x.1<;>rfl
 ·subst e;obtain⟨l',y,rfl,y1,y2⟩:=get 3 rfl rfl rfl rfl;have hck:Z2 (p0,s,g,x,3,hd) l d=bif le3 (ZdV (Zi p0 l) x d).2.2.2 then endX (Zi p0 l) s (g++[(ZdV (Zi p0 l) x d).2.2.1]) hd l else (Zi p0 l,s,g++[(ZdV (Zi p0 l) x d).2.2.1],ZdV (Zi p0 l) x d,4,hd):=by unfold Z2;simp only[hr,hsx];rfl
  rw[hck];cases le3 (ZdV (Zi p0 l) x d).2.2.2
  ·have w:IntKind.wrap .i64 (y.2.2.2.1+1)=3:=by rw[y2];rfl
   refine⟨by show (1:Int)<=4/\(4:Int)<=9;decide,.inr ⟨l',(y.1,ZdV (Zi p0 l) x d,y.2.2.1,3,y.2.2.2.2),?_,rfl,rfl⟩⟩;have hcur:Zag (p0,s,g,x,3,hd) 3 d=ZdV (Zi p0 l) x d:=by unfold ZdV;rw[Zq7];rfl
   rw[hcur];show Zcz (l'++[y]) _=_;rw[ZbR,w];rfl
  ·exact Zyh _ _ _ _ _ _
 ·exact more 4 e (.inl rfl)
 ·exact more 5 e (.inr (.inl rfl))
 ·exact more 6 e (.inr (.inr rfl))
 ·subst e;obtain⟨l',y,rfl,y1,y2⟩:=get 7 rfl rfl rfl rfl;have hck:Z2 (p0,s,g,x,7,hd) l d=(Zi p0 l,s,g,x,bif l.1|| !Zad x.1 then 3 else 7,bif l.1|| !Zad x.1 then l.2.1 else hd):=by unfold Z2;simp only[hr,hsx];show (bif l.1|| !Zad x.1 then _ else _)=_;cases l.1|| !Zad x.1<;>rfl
  rw[hck];refine⟨wait _ (by cases l.1|| !Zad x.1<;>simp),.inr ⟨l',(y.1,x,IntKind.wrap .i64 (y.2.2.1+1),y.2.2.2),?_,rfl,?_⟩⟩
  ·show Zcz (l'++[y]) _=_;rw[ZbR];rfl
  ·show y.2.2.2.1=ZxR (bif l.1|| !Zad x.1 then 3 else 7);rw[y2];cases l.1|| !Zad x.1<;>rfl
 ·subst e;have hck:Z2 (p0,s,g,x,8,hd) l d=(Zi p0 l,s,g,x,idlX (Zi p0 l) s l.2.1,hd):=by unfold Z2;simp only[hr,hsx];rfl
  rw[hck];exact Zjv _ (ZN7 _ _ _)
 ·subst e;have hck:(Z2 (p0,s,g,x,9,hd) l d).2.2.2.2.1=bif Zei (Zi p0 l) l==0 then (bif l.2.1 then 8 else 9) else (bif l.2.1 then 8 else 1):=by unfold Z2;simp only[hr,hsx];show (bif Zei (Zi p0 l) l==0 then _ else _:CORT).2.2.2.2.1=_;cases Zei (Zi p0 l) l==0<;>rfl
  refine Zjv _ ?_;rw[hck];cases Zei (Zi p0 l) l==0<;>cases l.2.1<;>simp
def RbOk (st:STT):Prop:=ZIm st.1.1/\ZyZ st.1.1 st.2.2.1
theorem ZT5 (b:BRDT) (s0:TC) (st:STT) (i:INPT) (h:RbOk st):RbOk (Zcp b s0 st i):=by
 have hc:(Zcp b s0 st i).1.1=Z2 st.1.1 (ZbE b (Zm b st.1 i) i) (busS b (Zm b st.1 i) i).2:=Zrl b st.1 i;refine⟨by rw[hc];exact ZJx _ _ _ h.1,?_⟩;rw[hc];show ZyZ _ (Zim st.2.2.1 st.1.1 (Zag st.1.1 (nowS st.1 i) (busS b (Zm b st.1 i) i).2) (nowS st.1 i));have hl2:(ZbE b (Zm b st.1 i) i).2.2.1=i.2.2.1:=rfl;cases hr:i.2.2.1
 ·have hnow:nowS st.1 i=Zp st.1.1:=by unfold nowS;rw[hr];rfl
  rw[hnow];exact ZNI h.2 _ _ (by rw[hl2,hr])
 ·refine Zjv _ (.inr (.inr ?_));unfold Z2;rw[hl2,hr];rfl
variable {α β:Type}
theorem Zme (c:Bool) (x y:α×β):(bif c then x.1 else y.1)=(bif c then x else y).1:=by cases c<;>rfl
theorem Zmd (c:Bool) (x y:α×β):(bif c then x.2 else y.2)=(bif c then x else y).2:=by cases c<;>rfl
theorem ZlP (p:α×β):(p.1,p.2)=p:=rfl
theorem ZTY (k t:Int) (x:TY) (d:Int) (i o:Bool):(ZpP k t x d i o).1=t:=by
 simp only[ZpP,Zv7,RT.val];cases t==8
 ·cases t==9
  ·cases t==10
   ·cases rOn k<;>rfl
   ·rfl
  ·rfl
 ·rfl
theorem ZSu (c:CORT) (l:LINT) (d:Int):(Zcr c l d).1=bif l.2.2.1 then 10 else Zp c:=ZTY _ _ _ _ _ _
theorem ZrU (d:QT4):(ZaI d).2.2=Zn d:=by rw[ZC3];cases Zn d<;>rfl
theorem ZON (b:BRDT) (s:SYST) (i:INPT) (hr:i.2.2.1=true):
  (busS b (Zm b s i) i).2=0/\(Z4 b s i).1=(Z2 s.1 (ZbE b (Zm b s i) i) 0,s.2.1,ZPC (Zm b s i).2.2.1 0,(s.2.2.2.1.1,s.2.2.2.1.2.1,0),ZaL s,s.2.2.2.2.2)/\ZdM b s i=false:=by
 have hb:busS b (Zm b s i) i=(Zm b s i,0):=by unfold busS;dsimp only;rw[hr];rfl
 have hw:Z0 s i=false:=by unfold Z0;rw[hr];rfl
 have hc:ZeC b s i=(Z2 s.1 (ZbE b (Zm b s i) i) 0,s.2.1,(Zm b s i).2.2.1,s.2.2.2.1,ZaL s,s.2.2.2.2.2):=by unfold ZeC;dsimp only;rw[hb];rfl
 have hwr:ZaH b s i=ZeC b s i:=by unfold ZaH;rw[hw];rfl
 have hm:ZdM b s i=false:=by
  unfold ZdM;have:Ze6 (pinS b s i)=false:=by
   cases h:Ze6 (pinS b s i)
   ·rfl
   ·unfold pinS at h;have:=(Znm h).1;rw[show (ZbE b (Zm b s i) i).2.2.1=i.2.2.1 from rfl,hr] at this;simp at this
  rw[this];rfl
 refine⟨by rw[hb],?_,hm⟩;show ZmU (ZgS b s i) i.2.2.1=_;have:ZgS b s i=ZeC b s i:=by unfold ZgS;dsimp only;rw[hm,hwr];rfl
 rw[this,hc,hr];rfl
theorem ZRU (b:BRDT) (s:SYST) (i:INPT) (hr:i.2.2.1=false) {L:LINT} {D:Int} {B:PICT} {w k7 x71 x72 d2:Bool} {d1 p:Int} {Wm:List Cell} {Wd:QT4}
  (hL:ZbE b (Zm b s i) i=L) (hD:(busS b (Zm b s i) i).2=D) (hB:(busS b (Zm b s i) i).1.2.2.1=B) (hw:(Zp s.1==3&&Zb2 s.1.2.2.2.1.1)=w) (h7:(s.1.2.2.2.1.1 !=7)=k7)
  (hp:IntKind.wrap .u8 s.1.2.2.2.1.2.1=p) (h71:(ZP b p).2=x71) (h72:x71=true->(ZP b p).1=x72) (hd:ZbY b p=(d1,d2))
  (hm:(bif w then bif k7 then ZaK b.2.1 s.2.1 s.1.2.2.2.1.2.1 s.1.2.2.2.1.2.2.1 else s.2.1 else s.2.1)=Wm)
  (hwd:(bif w then bif k7 then s.2.2.2.1 else bif x71 then s.2.2.2.1 else bif d2 then ZdD s.2.2.2.1 d1 s.1.2.2.2.1.2.2.1 else s.2.2.2.1 else s.2.2.2.1)=Wd):
  ZdM b s i=(Ze6 (Zcr s.1 L D)&&Zn Wd)/\pinS b s i=Zcr s.1 L D/\
  (Z4 b s i).1=(Z2 s.1 L D,(bif Ze6 (Zcr s.1 L D)&&Zn Wd then ZaK b.2.1 Wm (ZaI Wd).2.1.1 (ZaI Wd).2.1.2 else Wm),(bif w then bif k7 then B else bif x71 then Zba B x72 s.1.2.2.2.1.2.2.1 else B else B),
   (bif Ze6 (Zcr s.1 L D)&&Zn Wd then (ZaI Wd).1 else Wd),ZaL s,(bif w then bif k7 then s.2.2.2.2.2 else s.2.2.2.2.2++[(p,s.1.2.2.2.1.2.2.1)] else s.2.2.2.2.2))/\
  (Z4 b s i).2.2.2.2.1=(bif Ze6 (Zcr s.1 L D)&&Zn Wd then (ZaI Wd).2.1 else (0,0)):=by
 obtain⟨k1,k2,k3⟩:=Zf1 b (Zm b s i) i;have hc:ZeC b s i=(Z2 s.1 L D,s.2.1,B,s.2.2.2.1,ZaL s,s.2.2.2.2.2):=by unfold ZeC;dsimp only;rw[k1,k2,k3,hB,hL,hD];rfl
 have hws:Z0 s i=w:=by unfold Z0;rw[hr];exact hw
 have hW:ZaH b s i=(Z2 s.1 L D,Wm,(bif w then bif k7 then B else bif x71 then Zba B x72 s.1.2.2.2.1.2.2.1 else B else B),Wd,ZaL s,(bif w then bif k7 then s.2.2.2.2.2 else s.2.2.2.2.2++[(p,s.1.2.2.2.1.2.2.1)] else s.2.2.2.2.2)):=by
  unfold ZaH Zf6;dsimp only;rw[hws,hc,hp,h7,hd,h71,<-hm,<-hwd];cases w
  ·rfl
  ·cases k7
   ·cases hx:x71
    ·rfl
    ·rw[h72 hx];rfl
   ·rfl
 have hP:pinS b s i=Zcr s.1 L D:=by unfold pinS;rw[k1,hL,hD];rfl
 have hM:ZdM b s i=(Ze6 (Zcr s.1 L D)&&Zn Wd):=by unfold ZdM;rw[hP,hW]
 have hcell:(Z4 b s i).2.2.2.2.1=(bif Ze6 (Zcr s.1 L D)&&Zn Wd then (ZaI Wd).2.1 else (0,0)):=by
  show (bif ZdM b s i then ((ZaH b s i).2.2.2.1.1,(ZaH b s i).2.2.2.1.2.1) else (0,0))=_;rw[hM,hW,ZC3];cases Ze6 (Zcr s.1 L D)
  ·rfl
  ·cases Zn Wd<;>rfl
 refine⟨hM,hP,?_,hcell⟩;show ZmU (ZgS b s i) i.2.2.1=_;rw[hr];show ZgS b s i=_;unfold ZgS;dsimp only;rw[hM,hW,ZC3];cases Ze6 (Zcr s.1 L D)
 ·rfl
 ·cases Zn Wd<;>rfl
end
end Go.Proofs.YtpnjbfjomebppaaGreat
