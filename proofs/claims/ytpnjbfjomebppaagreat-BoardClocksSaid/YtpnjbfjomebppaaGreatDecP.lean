import Derived.Test.YtpnjbfjomebppaaGreatPicJ
open Go.Proofs.Tryz (prog)
open Go.IntKind (u8 u16 i64)
set_option linter.unusedSimpArgs false
open Go Go.S3 Go.Proofs
set_option linter.unusedVariables false
set_option maxRecDepth 100000
namespace Go.Proofs.YtpnjbfjomebppaaGreat
noncomputable section
def ZyR (b:BRDT):RT (Option (Int)):=
 .br (b.1 !=1&&b.1 !=2) (Ls (1)) (.br (smG b.2.1) (.br (Zdx b.2.1 !=0) (Ls (Zdx b.2.1)) (.br (decide (b.2.2.1<0)||(decide (b.2.2.1>100)||smC b.2.2.2.2.2.2)) (.br (decide (b.2.2.1<0)||(decide (b.2.2.1>100)|| !vldB b.2.2.2.2.2.2)) (Ls (1)) (Ls (0))) Ln)) Ln)
def ZrJ (b:BRDT):Int:=getO Z2v.Df (ZyR b).val
def ZyT (b:BRDT):Bool:=okB (ZyR b).val
def ZyS:En:=Zf ZHP Z2v (λa=>some (ZyT a)) (λa=>ZrJ a)
theorem ZPr:Za prog 50 ZyS:=
 pureP 15 [(102,ZA0),(103,ZK5)] [] ZHP Z2v ⟨ZFp,ZO2,Tv⟩ Tryz.func50 Tryz.call50 trivial (t:=λa=>ZyR a)
def Zar:En:=.tree (Zq (envX prog [] [] 23 8) Tryz.f201)
theorem ZcQ:Za prog 201 Zar:=ZD trivial Tryz.func201 rfl (by kernel_rfl) Tryz.call201 trivial
def ZbJ:En:=.tree (Zq (envX prog [(201,Zar),(269,Zhs)] [] 4195343 8) Tryz.f200)
theorem Zfh:Za prog 200 ZbJ:=ZD ⟨ZcQ,Zpx,Tv⟩ Tryz.func200 rfl (by kernel_rfl) Tryz.call200 trivial
def Zbw:En:=.tree (Zq (envX prog [(141,Zgy),(198,Zhq),(199,Zpq),(200,ZbJ)] [] 63 8) Tryz.f135)
theorem Zfb:Za prog 135 Zbw:=ZD ⟨Zkr,Zpn,ZAP,Zfh,Tv⟩ Tryz.func135 rfl (by kernel_rfl) Tryz.call135 trivial
def Zah:En:=.tree (Zq (envX prog [] [] 127 8) Tryz.f204)
theorem Zcq:Za prog 204 Zah:=ZD trivial Tryz.func204 rfl (by kernel_rfl) Tryz.call204 trivial
def ZbI:En:=.tree (Zq (envX prog [(201,Zar),(202,ZjY),(203,Zpr),(204,Zah),(205,ZjQ),(206,Zks)] [] 68720003071 8) Tryz.f137)
theorem Zfg:Za prog 137 ZbI:=ZD ⟨ZcQ,Ztv,ZAS,Zcq,Ztk,ZtU,Tv⟩ Tryz.func137 rfl (by kernel_rfl) Tryz.call137 trivial
def Zbv:En:=.tree (Zq (envX prog [(143,Zdc),(204,Zah),(207,Zhp),(208,ZhJ)] [] 255 8) Tryz.f140)
theorem Zfa:Za prog 140 Zbv:=ZD ⟨Zgl,Zcq,Zpj,ZrA,Tv⟩ Tryz.func140 rfl (by kernel_rfl) Tryz.call140 trivial
def ZcR:En:=.tree (Zq (envX prog [(83,Zdd),(135,Zbw),(136,ZiX),(137,ZbI),(138,Zj2),(139,ZcK),(140,Zbv),(141,Zgy),(142,ZrB),(143,Zdc)] [] 255 8) Tryz.f76)
theorem Zfc:Za prog 76 ZcR:=ZD ⟨Zes,Zfb,ZjW,Zfg,ZtA,ZeN,Zfa,Zkr,ZCr,Zgl,Tv⟩ Tryz.func76 rfl (by kernel_rfl) Tryz.call76 trivial
abbrev ZkC:Rs:=Rs.tup [Sh.agg (R.Pq (R.Pq Zu (R.Pq Kc (R.Pq (R.sl Ka) (R.Pq (RY) (R.Pq Kc R.bool))))) (R.Pq rcCE (R.Pq ZY (R.Pq (R.Pq Kb (R.Pq Ka Kc)) (R.Pq Kc (R.sl (R.Pq Ka Ka))))))),Sh.agg ZkZ]
def ZkB (b:BRDT) (s:SYST) (i:INPT):RT (Option (SYST×PINT)):=
 let x1:=bif s.1.2.2.2.1.1==1 then s.1.2.2.2.1.1==1 else bif s.1.2.2.2.1.1==2 then s.1.2.2.2.1.1==2 else bif s.1.2.2.2.1.1==3 then s.1.2.2.2.1.1==3 else bif s.1.2.2.2.1.1==4 then s.1.2.2.2.1.1==4 else s.1.2.2.2.1.1==5
 let x2:= !x1
 let x3:= !i.1||(x2||smG b.2.1)
 let x4:= !x3
 let x5:= !i.2.2.1&&ZbD s.1==3&&Zbi s.1.2.2.2.1.1
 let x6:= !x5||(x2||smG b.2.1&&smC s.2.1)
 let x7:= !x6
 let x8:CORT:=(s.1.1,s.1.2.1,bif !i.2.2.1 then s.1.2.2.1 else s.1.2.2.1,s.1.2.2.2)
 let x9:=Zms x8
 let x10:= !x9
 let x11:= !i.2.2.1&&ZbD s.1==3&&ZcW s.1.2.2.2.1.1
 let x12:= !x11
 let x13:= !s.1.2.2.2.1.1 !=7||smG b.2.1&&smC s.2.1
 let x14:List (Int×Int):=s.2.2.2.2.2++[(u8.wrap s.1.2.2.2.1.2.1,s.1.2.2.2.1.2.2.1)]
 let x15:=x12||(!x13||(s.1.2.2.2.1.1 !=7||Nat.ble (Le x14) most))
 let x16:= !x15
 let p1:=x16::x10::x7::x4::[]
 let x17:=x12||x13
 let x18:Int:=bif s.1.2.2.2.2.1==7 then i64.wrap (s.2.2.2.2.1+1) else 0
 let x19:=ZaL s.2.2.1 i.2.2.2.2.2.2.2.2.1
 let x20:=s.1.2.2.2.1.1==8||s.1.2.2.2.1.1==9
 let x21:Int:=bif b.2.2.2.2.2.1 then s.2.2.1.1 else x19.1
 let x22:=x19.2
 let x23:=bif b.2.2.2.2.2.1 then s.2.2.1.2.1 else x22.1
 let x24:=x22.2
 let x25:=bif b.2.2.2.2.2.1 then s.2.2.1.2.2.1 else x24.1
 let x26:=x24.2
 let x27:=bif b.2.2.2.2.2.1 then s.2.2.1.2.2.2.1 else x26.1
 let x28:=x26.2
 let x29:=bif b.2.2.2.2.2.1 then s.2.2.1.2.2.2.2.1 else x28.1
 let x30:=x28.2
 let x31:Int:=bif b.2.2.2.2.2.1 then s.2.2.1.2.2.2.2.2.1 else x30.1
 let x32:=x30.2
 let x33:Int:=bif b.2.2.2.2.2.1 then s.2.2.1.2.2.2.2.2.2.1 else x32.1
 let x34:=x32.2
 let x35:=bif b.2.2.2.2.2.1 then s.2.2.1.2.2.2.2.2.2.2.1 else x34.1
 let x36:=x34.2
 let x37:=bif b.2.2.2.2.2.1 then s.2.2.1.2.2.2.2.2.2.2.2.1 else x36.1
 let x38:=x36.2
 let x39:=bif b.2.2.2.2.2.1 then s.2.2.1.2.2.2.2.2.2.2.2.2.1 else x38.1
 let x40:=s.2.2.1.2.2.2.2.2.2.2.2.2.2
 let x41:=x38.2
 let x42:=bif b.2.2.2.2.2.1 then x40.1 else x41.1
 let x43:=x40.2
 let x44:=x41.2
 let x45:=bif b.2.2.2.2.2.1 then x43.1 else x44.1
 let x46:=x43.2
 let x47:=x44.2
 let x48:Int:=bif b.2.2.2.2.2.1 then x46.1 else x47.1
 let x49:=x46.2
 let x50:=x47.2
 let x51:Int:=bif b.2.2.2.2.2.1 then x49.1 else x50.1
 let x52:=x49.2
 let x53:=x50.2
 let x54:Int:=bif b.2.2.2.2.2.1 then x52.1 else x53.1
 let x55:=x52.2
 let x56:=x53.2
 let x57:Int:=bif b.2.2.2.2.2.1 then x55.1 else x56.1
 let x58:=x55.2
 let x59:=x56.2
 let x60:Int:=bif b.2.2.2.2.2.1 then x58.1 else x59.1
 let x61:=x58.2
 let x62:=x59.2
 let x63:Int:=bif b.2.2.2.2.2.1 then x61.1 else x62.1
 let x64:=x61.2
 let x65:=x62.2
 let x66:Int:=bif b.2.2.2.2.2.1 then x64.1 else x65.1
 let x67:=bif b.2.2.2.2.2.1 then x64.2 else x65.2
 let x68:PICT:=(x21,x23,x25,x27,x29,x31,x33,x35,x37,x39,x42,x45,x48,x51,x54,x57,x60,x63,x66,x67)
 let x69:=vAck x68
 let x70:=u8.wrap (u8.wrap s.1.2.2.2.1.2.1-b.2.2.2.1)
 let x71:= !b.2.2.2.2.2.1&&decide (x70<2)
 let x72:=x70==1
 let x73:=bif !b.2.2.2.2.2.1 then x72 else x72
 let x74:=ZkJ x68 x73
 let x75:=u8.wrap (u8.wrap s.1.2.2.2.1.2.1-b.2.2.2.2.1)
 let x76:=decide (x75<4)
 let x77:=i64.wrap x75
 let x78:=clkX x8 (i.1&&bif x1 then decide (x18>=Zey b.2.1 s.1.2.2.2.1.2.1) else bif s.1.2.2.2.1.1==6||s.1.2.2.2.1.1==7 then decide (x18>=if (if 100<b.2.2.1 then 100 else b.2.2.1)>0 then if 100<b.2.2.1 then 100 else b.2.2.1 else 0) else decide (x18>=0),i.2.1||ZM s.2.2.2.1,i.2.2.1,i.2.2.2.1,i.2.2.2.2.1,i.2.2.2.2.2.1,i.2.2.2.2.2.2.1,i.2.2.2.2.2.2.2.1,bif b.2.2.2.2.2.1 then andI u8 i.2.2.2.2.2.2.2.2.1 1==1 else vInt x19) (bif x5 then bif x1 then Zfn b.2.1 s.2.1 s.1.2.2.2.1.2.1 else bif x20 then bif !b.2.2.2.2.2.1 then x69.2 else i.2.2.2.2.2.2.2.2.2 else bif x71 then x74.2 else bif x76 then Zis s.2.2.2.1 x77 else i.2.2.2.2.2.2.2.2.2 else 0)
 let x79:=x78.2
 let x80:=ZeA s.2.2.2.1 x77 s.1.2.2.2.1.2.2.1
 let x81:Int:=bif x11 then bif s.1.2.2.2.1.1 !=7 then s.2.2.2.1.1 else bif x71 then s.2.2.2.1.1 else bif x76 then x80.1 else s.2.2.2.1.1 else s.2.2.2.1.1
 let x82:=x80.2
 let x83:Int:=bif x11 then bif s.1.2.2.2.1.1 !=7 then s.2.2.2.1.2.1 else bif x71 then s.2.2.2.1.2.1 else bif x76 then x82.1 else s.2.2.2.1.2.1 else s.2.2.2.1.2.1
 let x84:Int:=bif x11 then bif s.1.2.2.2.1.1 !=7 then s.2.2.2.1.2.2 else bif x71 then s.2.2.2.1.2.2 else bif x76 then x82.2 else s.2.2.2.1.2.2 else s.2.2.2.1.2.2
 let x85:QT4:=(x81,x83,x84)
 let x86:=x79.2.2.2.2.2.2.2.2.2.2.2.2.2.2.2.1&&ZM x85
 let p2:=(!x86)::(!x17)::p1
 let x87:List (Int×Int):=bif x11 then bif s.1.2.2.2.1.1 !=7 then ZaV b.2.1 s.2.1 s.1.2.2.2.1.2.1 s.1.2.2.2.1.2.2.1 else s.2.1 else s.2.1
 let x88:=Zcb x85
 let x89:=x88.2.1
 let x90:=x69.1
 let x91:=x74.1
 let x92:Int:=bif x5 then bif x1 then x21 else bif x20 then bif !b.2.2.2.2.2.1 then x90.1 else x21 else bif x71 then x91.1 else x21 else x21
 let x93:=x90.2
 let x94:=x91.2
 let x95:=bif x5 then bif x1 then x23 else bif x20 then bif !b.2.2.2.2.2.1 then x93.1 else x23 else bif x71 then x94.1 else x23 else x23
 let x96:=x93.2
 let x97:=x94.2
 let x98:=bif x5 then bif x1 then x25 else bif x20 then bif !b.2.2.2.2.2.1 then x96.1 else x25 else bif x71 then x97.1 else x25 else x25
 let x99:=x96.2
 let x100:=x97.2
 let x101:=bif x5 then bif x1 then x27 else bif x20 then bif !b.2.2.2.2.2.1 then x99.1 else x27 else bif x71 then x100.1 else x27 else x27
 let x102:=x99.2
 let x103:=x100.2
 let x104:=bif x5 then bif x1 then x29 else bif x20 then bif !b.2.2.2.2.2.1 then x102.1 else x29 else bif x71 then x103.1 else x29 else x29
 let x105:=x102.2
 let x106:=x103.2
 let x107:Int:=bif x5 then bif x1 then x31 else bif x20 then bif !b.2.2.2.2.2.1 then x105.1 else x31 else bif x71 then x106.1 else x31 else x31
 let x108:=x105.2
 let x109:=x106.2
 let x110:Int:=bif x5 then bif x1 then x33 else bif x20 then bif !b.2.2.2.2.2.1 then x108.1 else x33 else bif x71 then x109.1 else x33 else x33
 let x111:=x108.2
 let x112:=x109.2
 let x113:=bif x5 then bif x1 then x35 else bif x20 then bif !b.2.2.2.2.2.1 then x111.1 else x35 else bif x71 then x112.1 else x35 else x35
 let x114:=x111.2
 let x115:=x112.2
 let x116:=bif x5 then bif x1 then x37 else bif x20 then bif !b.2.2.2.2.2.1 then x114.1 else x37 else bif x71 then x115.1 else x37 else x37
 let x117:=x114.2
 let x118:=x115.2
 let x119:=bif x5 then bif x1 then x39 else bif x20 then bif !b.2.2.2.2.2.1 then x117.1 else x39 else bif x71 then x118.1 else x39 else x39
 let x120:=x117.2
 let x121:=x118.2
 let x122:=bif x5 then bif x1 then x42 else bif x20 then bif !b.2.2.2.2.2.1 then x120.1 else x42 else bif x71 then x121.1 else x42 else x42
 let x123:=x120.2
 let x124:=x121.2
 let x125:=bif x5 then bif x1 then x45 else bif x20 then bif !b.2.2.2.2.2.1 then x123.1 else x45 else bif x71 then x124.1 else x45 else x45
 let x126:=x123.2
 let x127:=x124.2
 let x128:Int:=bif x5 then bif x1 then x48 else bif x20 then bif !b.2.2.2.2.2.1 then x126.1 else x48 else bif x71 then x127.1 else x48 else x48
 let x129:=x126.2
 let x130:=x127.2
 let x131:Int:=bif x5 then bif x1 then x51 else bif x20 then bif !b.2.2.2.2.2.1 then x129.1 else x51 else bif x71 then x130.1 else x51 else x51
 let x132:=x129.2
 let x133:=x130.2
 let x134:Int:=bif x5 then bif x1 then x54 else bif x20 then bif !b.2.2.2.2.2.1 then x132.1 else x54 else bif x71 then x133.1 else x54 else x54
 let x135:=x132.2
 let x136:=x133.2
 let x137:Int:=bif x5 then bif x1 then x57 else bif x20 then bif !b.2.2.2.2.2.1 then x135.1 else x57 else bif x71 then x136.1 else x57 else x57
 let x138:=x135.2
 let x139:=x136.2
 let x140:Int:=bif x5 then bif x1 then x60 else bif x20 then bif !b.2.2.2.2.2.1 then x138.1 else x60 else bif x71 then x139.1 else x60 else x60
 let x141:=x138.2
 let x142:=x139.2
 let x143:Int:=bif x5 then bif x1 then x63 else bif x20 then bif !b.2.2.2.2.2.1 then x141.1 else x63 else bif x71 then x142.1 else x63 else x63
 let x144:=x141.2
 let x145:=x142.2
 let x146:Int:=bif x5 then bif x1 then x66 else bif x20 then bif !b.2.2.2.2.2.1 then x144.1 else x66 else bif x71 then x145.1 else x66 else x66
 let x147:=bif x5 then bif x1 then x67 else bif x20 then bif !b.2.2.2.2.2.1 then x144.2 else x67 else bif x71 then x145.2 else x67 else x67
 let x148:=Zby (x92,x95,x98,x101,x104,x107,x110,x113,x116,x119,x122,x125,x128,x131,x134,x137,x140,x143,x146,x147) x73 s.1.2.2.2.1.2.2.1
 let x149:=x148.2
 let x150:=x149.2
 let x151:=x150.2
 let x152:=x151.2
 let x153:=x152.2
 let x154:=x153.2
 let x155:=x154.2
 let x156:=x155.2
 let x157:=x156.2
 let x158:=x157.2
 let x159:=x158.2
 let x160:=x159.2
 let x161:=x160.2
 let x162:=x161.2
 let x163:=x162.2
 let x164:=x163.2
 let x165:=x164.2
 let x166:=x165.2
 let x167:=x88.1
 let x168:=x167.2
 .br (!Nat.ble (Le s.1.2.2.1) most||(!Nat.ble (Le s.2.1) most||Nat.ble (Le s.2.2.2.2.2) most)) (.br (!Nat.ble (Le s.1.2.2.1) most||Nat.ble (Le s.2.1) most) (.br (Nat.ble (Le s.1.2.2.1) most) (.br (orR p2 (smG b.2.1&&smC x87)) (.br (orR p1 x17) (.br (x4||(x7||(x10||x15))) (.br (x4||(x7||x9)) (.br (x4||x6) (.br (x3) (Ls (((x78.1,bif x86 then ZaV b.2.1 x87 x89.1 x89.2 else x87,(bif x11 then bif s.1.2.2.2.1.1 !=7 then x92 else bif x71 then x148.1 else x92 else x92,bif x11 then bif s.1.2.2.2.1.1 !=7 then x95 else bif x71 then x149.1 else x95 else x95,bif x11 then bif s.1.2.2.2.1.1 !=7 then x98 else bif x71 then x150.1 else x98 else x98,bif x11 then bif s.1.2.2.2.1.1 !=7 then x101 else bif x71 then x151.1 else x101 else x101,bif x11 then bif s.1.2.2.2.1.1 !=7 then x104 else bif x71 then x152.1 else x104 else x104,bif x11 then bif s.1.2.2.2.1.1 !=7 then x107 else bif x71 then x153.1 else x107 else x107,bif x11 then bif s.1.2.2.2.1.1 !=7 then x110 else bif x71 then x154.1 else x110 else x110,bif x11 then bif s.1.2.2.2.1.1 !=7 then x113 else bif x71 then x155.1 else x113 else x113,bif x11 then bif s.1.2.2.2.1.1 !=7 then x116 else bif x71 then x156.1 else x116 else x116,bif x11 then bif s.1.2.2.2.1.1 !=7 then x119 else bif x71 then x157.1 else x119 else x119,bif x11 then bif s.1.2.2.2.1.1 !=7 then x122 else bif x71 then x158.1 else x122 else x122,bif x11 then bif s.1.2.2.2.1.1 !=7 then x125 else bif x71 then x159.1 else x125 else x125,bif x11 then bif s.1.2.2.2.1.1 !=7 then x128 else bif x71 then x160.1 else x128 else x128,bif x11 then bif s.1.2.2.2.1.1 !=7 then x131 else bif x71 then x161.1 else x131 else x131,bif x11 then bif s.1.2.2.2.1.1 !=7 then x134 else bif x71 then x162.1 else x134 else x134,bif x11 then bif s.1.2.2.2.1.1 !=7 then x137 else bif x71 then x163.1 else x137 else x137,bif x11 then bif s.1.2.2.2.1.1 !=7 then x140 else bif x71 then x164.1 else x140 else x140,bif i.2.2.1 then 0 else bif x11 then bif s.1.2.2.2.1.1 !=7 then x143 else bif x71 then x165.1 else x143 else x143,bif x11 then bif s.1.2.2.2.1.1 !=7 then x146 else bif x71 then x166.1 else x146 else x146,bif x11 then bif s.1.2.2.2.1.1 !=7 then x147 else bif x71 then x166.2 else x147 else x147),(bif x86 then x167.1 else x81,bif x86 then x168.1 else x83,bif i.2.2.1 then 0 else bif x86 then x168.2 else x84),x18,bif x11 then bif s.1.2.2.2.1.1 !=7 then s.2.2.2.2.2 else x14 else s.2.2.2.2.2),x79))) Ln) Ln) Ln) Ln) Ln) Ln) Ln) Ln) Ln
def ZXA (b:BRDT) (s:SYST) (i:INPT):SYST×PINT:=getO ZkC.Df (ZkB b s i).val
def ZLO (b:BRDT) (s:SYST) (i:INPT):Bool:=okB (ZkB b s i).val
def Z00:En:=Zf Zy4 ZkC (λa=>some (ZLO a.1 a.2.1 a.2.2)) (λa=>ZXA a.1 a.2.1 a.2.2)
theorem ZPt:Za prog 63 Z00:=
 pureP 1023 [(76,ZcR),(98,Znl),(120,Zi7),(121,ZXn)] [] Zy4 ZkC ⟨Zfc,ZtW,Zkw,ZXm,Tv⟩ Tryz.func63 Tryz.call63 trivial (t:=λa=>ZkB a.1 a.2.1 a.2.2)
end
end Go.Proofs.YtpnjbfjomebppaaGreat
open Go Go.S3 Go.Proofs Go.Proofs.Cells
namespace Go.Proofs.YtpnjbfjomebppaaGreat
noncomputable section
theorem mem15 (k:Int):(bif k==1 then k==1 else bif k==2 then k==2 else bif k==3 then k==3 else bif k==4 then k==4 else k==5)=(decide (k>=1)&&decide (k<=5)):=by
 by_cases h1:k=1
 ·subst h1;rfl
 by_cases h2:k=2
 ·subst h2;rfl
 by_cases h3:k=3
 ·subst h3;rfl
 by_cases h4:k=4
 ·subst h4;rfl
 by_cases h5:k=5
 ·subst h5;rfl
 have e1:(k==1)=false:=by simpa using h1
 have e2:(k==2)=false:=by simpa using h2
 have e3:(k==3)=false:=by simpa using h3
 have e4:(k==4)=false:=by simpa using h4
 have e5:(k==5)=false:=by simpa using h5
 rw[e1,e2,e3,e4,e5];simp;omega
theorem ZYl (c:CORT):(c.2.2.2.2.1==7)=(Zad c==7):=by
 have:Zad c=Zac c.2.2.2.2.1:=rfl;rw[this];unfold Zac;cases h:decide (c.2.2.2.2.1<1)||decide (c.2.2.2.2.1>9)
 ·rfl
 ·simp at h;have:(c.2.2.2.2.1==7)=false:=by simp;omega
  rw[this];rfl
theorem ZXM (s:SYST):(bif s.1.2.2.2.2.1==7 then i64.wrap (s.2.2.2.2.1+1) else 0)=ZbN s:=by unfold ZbN Zt0;rw[ZYl];simp only[RT.val,bne];cases Zad s.1==7<;>rfl
theorem ZZl {p q:Int} (hp:inR .u8 p) (hq:inR .u8 q):(decide (IntKind.wrap .u8 (p-q)<2)=(p==q||p==IntKind.wrap .u8 (q+1)))/\(decide (IntKind.wrap .u8 (p-q)<2)=true->(IntKind.wrap .u8 (p-q)==1)=(p==IntKind.wrap .u8 (q+1))):=by
 rw[Zfv] at hp hq;have e1:IntKind.wrap .u8 (p-q)=(p-q)%256:=ZCG _;have e2:IntKind.wrap .u8 (q+1)=(q+1)%256:=ZCG _;rw[e1,e2];refine⟨?_,λh=> ?_⟩
 ·rw[Bool.eq_iff_iff];simp only[Yi,YG,Yav];omega
 ·rw[Bool.eq_iff_iff];simp only[Yav];simp only[Yi] at h;omega
theorem Z7D (n:Int):(if (if 100<n then 100 else n)>0 then if 100<n then 100 else n else 0)=ZjB n:=by unfold ZjB ZED;simp only[RT.val]
theorem Z5w (b:BRDT) (x:TY) (hg:smG b.2.1=true):ZLT b x=bif decide (x.1>=1)&&decide (x.1<=5) then Zey b.2.1 x.2.1 else bif x.1==6||x.1==7 then ZjB b.2.2.1 else 0:=by
 have hv:(Zr8 b x).val=some (bif decide (x.1>=1)&&decide (x.1<=5) then Zey b.2.1 x.2.1 else bif x.1==6||x.1==7 then ZjB b.2.2.1 else 0):=by
  unfold Zr8;simp only[RT.val,hg,Yh,Yb];cases decide (x.1>=1)&&decide (x.1<=5)
  ·cases x.1==6||x.1==7<;>rfl
  ·rfl
 simp only[ZLT,hv,getO]
theorem Z6A (d:QT4):Zcb d=bif ZM d then ((IntKind.wrap .u16 (d.1+1),d.2.1,IntKind.wrap .i64 (d.2.2-1)),(d.1,d.2.1),true) else ((0,0,0),(0,0),false):=by unfold Zcb ZfL;simp only[RT.val];cases ZM d<;>rfl
theorem pstR (c:CORT):ZbD c=Zad c:=rfl
theorem bus_p (b:BRDT) (t:SYST) (i:INPT) (x5 x20 x71 x72:Bool) (h5:x5=(!i.2.2.1&&(Zad t.1==3&&Zbi t.1.2.2.2.1.1))) (h20:x20=(t.1.2.2.2.1.1==8||t.1.2.2.2.1.1==9)) (hq:x71=(Z8 b (IntKind.wrap .u8 t.1.2.2.2.1.2.1)).2) (hq2:x71=true->x72=(Z8 b (IntKind.wrap .u8 t.1.2.2.2.1.2.1)).1) (hj:b.2.2.2.2.2.1=true->x71=false):
  busS b t i=((t.1,t.2.1,(bif x5 then bif decide (t.1.2.2.2.1.1>=1)&&decide (t.1.2.2.2.1.1<=5) then t.2.2.1 else bif x20 then (bif !b.2.2.2.2.2.1 then (vAck t.2.2.1).1 else t.2.2.1) else bif x71 then (ZkJ t.2.2.1 x72).1 else t.2.2.1 else t.2.2.1),t.2.2.2),
   bif x5 then bif decide (t.1.2.2.2.1.1>=1)&&decide (t.1.2.2.2.1.1<=5) then Zfn b.2.1 t.2.1 t.1.2.2.2.1.2.1 else bif x20 then (bif !b.2.2.2.2.2.1 then (vAck t.2.2.1).2 else i.2.2.2.2.2.2.2.2.2) else bif x71 then (ZkJ t.2.2.1 x72).2 else bif (Zca b (IntKind.wrap .u8 t.1.2.2.2.1.2.1)).2 then Zis t.2.2.2.1 (Zca b (IntKind.wrap .u8 t.1.2.2.2.1.2.1)).1 else i.2.2.2.2.2.2.2.2.2 else 0):=by
 unfold busS;dsimp only;have e:(i.2.2.1||(Zad t.1 !=3|| !Zbi t.1.2.2.2.1.1))= !x5:=by rw[h5,bne];cases i.2.2.1<;>cases Zad t.1==3<;>cases Zbi t.1.2.2.2.1.1<;>rfl
 rw[e];cases hx:x5
 ·rfl
 ·simp only[Yf,Yb,Yc];cases hm:decide (t.1.2.2.2.1.1>=1)&&decide (t.1.2.2.2.1.1<=5)
  ·simp only[Yc];have h6:(t.1.2.2.2.1.1 !=6)=x20:=by
    rw[h5] at hx;simp only[Ya] at hx;have hr:=hx.2.2;unfold Zbi Zu8 at hr;simp only[RT.val] at hr;simp at hr hm;rw[h20];have:t.1.2.2.2.1.1=6\/t.1.2.2.2.1.1=8\/t.1.2.2.2.1.1=9:=by omega
    rcases this with h|h|h<;>rw[h]<;>rfl
   rw[h6,<-hq];cases x20
   ·simp only[YT,Yc];cases hz:x71
    ·simp only[Yc];cases (Zca b (IntKind.wrap .u8 t.1.2.2.2.1.2.1)).2<;>rfl
    ·simp only[Yb];rw[hq2 hz]
   ·simp only[YP,Yb];cases b.2.2.2.2.2.1<;>rfl
  ·rfl
theorem ZLq (b:BRDT) (p:Int):Z8 b p=(p==IntKind.wrap .u8 (b.2.2.2.1+1),!b.2.2.2.2.2.1&&(p==b.2.2.2.1||p==IntKind.wrap .u8 (b.2.2.2.1+1))):=by unfold Z8 ZCK;simp only[RT.val];cases b.2.2.2.2.2.1<;>cases p==b.2.2.2.1<;>rfl
theorem Z2Q (b:BRDT) (p:Int):Zca b p=(IntKind.wrap .i64 (IntKind.wrap .u8 (p-b.2.2.2.2.1)),decide (IntKind.wrap .u8 (p-b.2.2.2.2.1)<4)):=by unfold Zca ZCM;simp only[RT.val]
theorem ZXf (w x y:Int) (a:Bool):decide (w>=bif a then x else y)=bif a then decide (w>=x) else decide (w>=y):=by cases a<;>rfl
theorem Z5H (b:BRDT) (s:SYST) (i:INPT) (hg:smG b.2.1=true):ZeX b (ZZ b s i) i=(i.1&&(bif decide (s.1.2.2.2.1.1>=1)&&decide (s.1.2.2.2.1.1<=5) then decide (ZbN s>=Zey b.2.1 s.1.2.2.2.1.2.1) else bif s.1.2.2.2.1.1==6||s.1.2.2.2.1.1==7 then decide (ZbN s>=ZjB b.2.2.1) else decide (ZbN s>=0)),
  i.2.1||ZM s.2.2.2.1,i.2.2.1,i.2.2.2.1,i.2.2.2.2.1,i.2.2.2.2.2.1,i.2.2.2.2.2.2.1,i.2.2.2.2.2.2.2.1,bif b.2.2.2.2.2.1 then andI .u8 i.2.2.2.2.2.2.2.2.1 1==1 else vInt (ZaL s.2.2.1 i.2.2.2.2.2.2.2.2.1)):=by
 unfold ZeX;have e1:ZbN (ZZ b s i)=ZbN s:=rfl;have e2:(ZZ b s i).1=s.1:=rfl;have e3:(ZZ b s i).2.2.2.1=s.2.2.2.1:=rfl;rw[e1,e2,e3,Z5w b _ hg,ZXf,ZXf];have e4:(ZZ b s i).2.2.1=bif !b.2.2.2.2.2.1 then ZaL s.2.2.1 i.2.2.2.2.2.2.2.2.1 else s.2.2.1:=rfl
 rw[e4];cases b.2.2.2.2.2.1<;>simp only[Yb,Yc,Yf,Ym]
def asmP (b:BRDT) (W:SYST) (h r:Bool):SYST:=
 (W.1,(bif h&&ZM W.2.2.2.1 then ZaV b.2.1 W.2.1 (bif ZM W.2.2.2.1 then ((IntKind.wrap .u16 (W.2.2.2.1.1+1),W.2.2.2.1.2.1,IntKind.wrap .i64 (W.2.2.2.1.2.2-1)),(W.2.2.2.1.1,W.2.2.2.1.2.1),true) else ((0,0,0),(0,0),false)).2.1.1 (bif ZM W.2.2.2.1 then ((IntKind.wrap .u16 (W.2.2.2.1.1+1),W.2.2.2.1.2.1,IntKind.wrap .i64 (W.2.2.2.1.2.2-1)),(W.2.2.2.1.1,W.2.2.2.1.2.1),true) else ((0,0,0),(0,0),false)).2.1.2 else W.2.1),
  (W.2.2.1.1,W.2.2.1.2.1,W.2.2.1.2.2.1,W.2.2.1.2.2.2.1,W.2.2.1.2.2.2.2.1,W.2.2.1.2.2.2.2.2.1,W.2.2.1.2.2.2.2.2.2.1,W.2.2.1.2.2.2.2.2.2.2.1,W.2.2.1.2.2.2.2.2.2.2.2.1,W.2.2.1.2.2.2.2.2.2.2.2.2.1,W.2.2.1.2.2.2.2.2.2.2.2.2.2.1,W.2.2.1.2.2.2.2.2.2.2.2.2.2.2.1,W.2.2.1.2.2.2.2.2.2.2.2.2.2.2.2.1,W.2.2.1.2.2.2.2.2.2.2.2.2.2.2.2.2.1,W.2.2.1.2.2.2.2.2.2.2.2.2.2.2.2.2.2.1,W.2.2.1.2.2.2.2.2.2.2.2.2.2.2.2.2.2.2.1,W.2.2.1.2.2.2.2.2.2.2.2.2.2.2.2.2.2.2.2.1,(bif r then 0 else W.2.2.1.2.2.2.2.2.2.2.2.2.2.2.2.2.2.2.2.2.1),W.2.2.1.2.2.2.2.2.2.2.2.2.2.2.2.2.2.2.2.2.2.1,W.2.2.1.2.2.2.2.2.2.2.2.2.2.2.2.2.2.2.2.2.2.2),
  ((bif h&&ZM W.2.2.2.1 then (bif ZM W.2.2.2.1 then ((IntKind.wrap .u16 (W.2.2.2.1.1+1),W.2.2.2.1.2.1,IntKind.wrap .i64 (W.2.2.2.1.2.2-1)),(W.2.2.2.1.1,W.2.2.2.1.2.1),true) else ((0,0,0),(0,0),false)).1.1 else W.2.2.2.1.1),(bif h&&ZM W.2.2.2.1 then (bif ZM W.2.2.2.1 then ((IntKind.wrap .u16 (W.2.2.2.1.1+1),W.2.2.2.1.2.1,IntKind.wrap .i64 (W.2.2.2.1.2.2-1)),(W.2.2.2.1.1,W.2.2.2.1.2.1),true) else ((0,0,0),(0,0),false)).1.2.1 else W.2.2.2.1.2.1),(bif r then 0 else bif h&&ZM W.2.2.2.1 then (bif ZM W.2.2.2.1 then ((IntKind.wrap .u16 (W.2.2.2.1.1+1),W.2.2.2.1.2.1,IntKind.wrap .i64 (W.2.2.2.1.2.2-1)),(W.2.2.2.1.1,W.2.2.2.1.2.1),true) else ((0,0,0),(0,0),false)).1.2.2 else W.2.2.2.1.2.2)),W.2.2.2.2)
theorem Z6c (b:BRDT) (s:SYST) (i:INPT):(Z9 b s i).1=asmP b (ZbB b s i) (ZPe (pinS b s i)) i.2.2.1:=by
 show ZzV (ZBI b s i) i.2.2.1=_;have hm:ZBI b s i=bif ZPe (pinS b s i)&&ZM (ZbB b s i).2.2.2.1 then ((ZbB b s i).1,ZaV b.2.1 (ZbB b s i).2.1 (ZbB b s i).2.2.2.1.1 (ZbB b s i).2.2.2.1.2.1,(ZbB b s i).2.2.1,(IntKind.wrap .u16 ((ZbB b s i).2.2.2.1.1+1),(ZbB b s i).2.2.2.1.2.1,IntKind.wrap .i64 ((ZbB b s i).2.2.2.1.2.2-1)),(ZbB b s i).2.2.2.2) else ZbB b s i:=rfl
 rw[hm];generalize ZbB b s i=W;generalize ZPe (pinS b s i)=h;generalize i.2.2.1=r;unfold asmP ZzV Z6B;generalize hq:ZM W.2.2.2.1=q;cases h<;>cases q<;>cases r<;>simp only[hq,YP,YT,Yb,Yc]
theorem Z28 (b:BRDT) (s:SYST) (i:INPT) (C:CORT) (P:PICT) (hC:C=ZbM s.1 (ZeX b (ZZ b s i) i) (busS b (ZZ b s i) i).2) (hP:P=(busS b (ZZ b s i) i).1.2.2.1) (x72:Bool)
  (hx:(Z8 b (IntKind.wrap .u8 s.1.2.2.2.1.2.1)).2=true->x72=(Z8 b (IntKind.wrap .u8 s.1.2.2.2.1.2.1)).1):
  ZbB b s i=(C,(bif Zal s i then bif s.1.2.2.2.1.1 !=7 then ZaV b.2.1 s.2.1 s.1.2.2.2.1.2.1 s.1.2.2.2.1.2.2.1 else s.2.1 else s.2.1),
   ((bif Zal s i then bif s.1.2.2.2.1.1 !=7 then P.1 else bif (Z8 b (IntKind.wrap .u8 s.1.2.2.2.1.2.1)).2 then (Zby P x72 s.1.2.2.2.1.2.2.1).1 else P.1 else P.1),(bif Zal s i then bif s.1.2.2.2.1.1 !=7 then P.2.1 else bif (Z8 b (IntKind.wrap .u8 s.1.2.2.2.1.2.1)).2 then (Zby P x72 s.1.2.2.2.1.2.2.1).2.1 else P.2.1 else P.2.1),(bif Zal s i then bif s.1.2.2.2.1.1 !=7 then P.2.2.1 else bif (Z8 b (IntKind.wrap .u8 s.1.2.2.2.1.2.1)).2 then (Zby P x72 s.1.2.2.2.1.2.2.1).2.2.1 else P.2.2.1 else P.2.2.1),(bif Zal s i then bif s.1.2.2.2.1.1 !=7 then P.2.2.2.1 else bif (Z8 b (IntKind.wrap .u8 s.1.2.2.2.1.2.1)).2 then (Zby P x72 s.1.2.2.2.1.2.2.1).2.2.2.1 else P.2.2.2.1 else P.2.2.2.1),(bif Zal s i then bif s.1.2.2.2.1.1 !=7 then P.2.2.2.2.1 else bif (Z8 b (IntKind.wrap .u8 s.1.2.2.2.1.2.1)).2 then (Zby P x72 s.1.2.2.2.1.2.2.1).2.2.2.2.1 else P.2.2.2.2.1 else P.2.2.2.2.1),(bif Zal s i then bif s.1.2.2.2.1.1 !=7 then P.2.2.2.2.2.1 else bif (Z8 b (IntKind.wrap .u8 s.1.2.2.2.1.2.1)).2 then (Zby P x72 s.1.2.2.2.1.2.2.1).2.2.2.2.2.1 else P.2.2.2.2.2.1 else P.2.2.2.2.2.1),(bif Zal s i then bif s.1.2.2.2.1.1 !=7 then P.2.2.2.2.2.2.1 else bif (Z8 b (IntKind.wrap .u8 s.1.2.2.2.1.2.1)).2 then (Zby P x72 s.1.2.2.2.1.2.2.1).2.2.2.2.2.2.1 else P.2.2.2.2.2.2.1 else P.2.2.2.2.2.2.1),(bif Zal s i then bif s.1.2.2.2.1.1 !=7 then P.2.2.2.2.2.2.2.1 else bif (Z8 b (IntKind.wrap .u8 s.1.2.2.2.1.2.1)).2 then (Zby P x72 s.1.2.2.2.1.2.2.1).2.2.2.2.2.2.2.1 else P.2.2.2.2.2.2.2.1 else P.2.2.2.2.2.2.2.1),(bif Zal s i then bif s.1.2.2.2.1.1 !=7 then P.2.2.2.2.2.2.2.2.1 else bif (Z8 b (IntKind.wrap .u8 s.1.2.2.2.1.2.1)).2 then (Zby P x72 s.1.2.2.2.1.2.2.1).2.2.2.2.2.2.2.2.1 else P.2.2.2.2.2.2.2.2.1 else P.2.2.2.2.2.2.2.2.1),(bif Zal s i then bif s.1.2.2.2.1.1 !=7 then P.2.2.2.2.2.2.2.2.2.1 else bif (Z8 b (IntKind.wrap .u8 s.1.2.2.2.1.2.1)).2 then (Zby P x72 s.1.2.2.2.1.2.2.1).2.2.2.2.2.2.2.2.2.1 else P.2.2.2.2.2.2.2.2.2.1 else P.2.2.2.2.2.2.2.2.2.1),(bif Zal s i then bif s.1.2.2.2.1.1 !=7 then P.2.2.2.2.2.2.2.2.2.2.1 else bif (Z8 b (IntKind.wrap .u8 s.1.2.2.2.1.2.1)).2 then (Zby P x72 s.1.2.2.2.1.2.2.1).2.2.2.2.2.2.2.2.2.2.1 else P.2.2.2.2.2.2.2.2.2.2.1 else P.2.2.2.2.2.2.2.2.2.2.1),(bif Zal s i then bif s.1.2.2.2.1.1 !=7 then P.2.2.2.2.2.2.2.2.2.2.2.1 else bif (Z8 b (IntKind.wrap .u8 s.1.2.2.2.1.2.1)).2 then (Zby P x72 s.1.2.2.2.1.2.2.1).2.2.2.2.2.2.2.2.2.2.2.1 else P.2.2.2.2.2.2.2.2.2.2.2.1 else P.2.2.2.2.2.2.2.2.2.2.2.1),(bif Zal s i then bif s.1.2.2.2.1.1 !=7 then P.2.2.2.2.2.2.2.2.2.2.2.2.1 else bif (Z8 b (IntKind.wrap .u8 s.1.2.2.2.1.2.1)).2 then (Zby P x72 s.1.2.2.2.1.2.2.1).2.2.2.2.2.2.2.2.2.2.2.2.1 else P.2.2.2.2.2.2.2.2.2.2.2.2.1 else P.2.2.2.2.2.2.2.2.2.2.2.2.1),(bif Zal s i then bif s.1.2.2.2.1.1 !=7 then P.2.2.2.2.2.2.2.2.2.2.2.2.2.1 else bif (Z8 b (IntKind.wrap .u8 s.1.2.2.2.1.2.1)).2 then (Zby P x72 s.1.2.2.2.1.2.2.1).2.2.2.2.2.2.2.2.2.2.2.2.2.1 else P.2.2.2.2.2.2.2.2.2.2.2.2.2.1 else P.2.2.2.2.2.2.2.2.2.2.2.2.2.1),(bif Zal s i then bif s.1.2.2.2.1.1 !=7 then P.2.2.2.2.2.2.2.2.2.2.2.2.2.2.1 else bif (Z8 b (IntKind.wrap .u8 s.1.2.2.2.1.2.1)).2 then (Zby P x72 s.1.2.2.2.1.2.2.1).2.2.2.2.2.2.2.2.2.2.2.2.2.2.1 else P.2.2.2.2.2.2.2.2.2.2.2.2.2.2.1 else P.2.2.2.2.2.2.2.2.2.2.2.2.2.2.1),(bif Zal s i then bif s.1.2.2.2.1.1 !=7 then P.2.2.2.2.2.2.2.2.2.2.2.2.2.2.2.1 else bif (Z8 b (IntKind.wrap .u8 s.1.2.2.2.1.2.1)).2 then (Zby P x72 s.1.2.2.2.1.2.2.1).2.2.2.2.2.2.2.2.2.2.2.2.2.2.2.1 else P.2.2.2.2.2.2.2.2.2.2.2.2.2.2.2.1 else P.2.2.2.2.2.2.2.2.2.2.2.2.2.2.2.1),(bif Zal s i then bif s.1.2.2.2.1.1 !=7 then P.2.2.2.2.2.2.2.2.2.2.2.2.2.2.2.2.1 else bif (Z8 b (IntKind.wrap .u8 s.1.2.2.2.1.2.1)).2 then (Zby P x72 s.1.2.2.2.1.2.2.1).2.2.2.2.2.2.2.2.2.2.2.2.2.2.2.2.1 else P.2.2.2.2.2.2.2.2.2.2.2.2.2.2.2.2.1 else P.2.2.2.2.2.2.2.2.2.2.2.2.2.2.2.2.1),(bif Zal s i then bif s.1.2.2.2.1.1 !=7 then P.2.2.2.2.2.2.2.2.2.2.2.2.2.2.2.2.2.1 else bif (Z8 b (IntKind.wrap .u8 s.1.2.2.2.1.2.1)).2 then (Zby P x72 s.1.2.2.2.1.2.2.1).2.2.2.2.2.2.2.2.2.2.2.2.2.2.2.2.2.1 else P.2.2.2.2.2.2.2.2.2.2.2.2.2.2.2.2.2.1 else P.2.2.2.2.2.2.2.2.2.2.2.2.2.2.2.2.2.1),(bif Zal s i then bif s.1.2.2.2.1.1 !=7 then P.2.2.2.2.2.2.2.2.2.2.2.2.2.2.2.2.2.2.1 else bif (Z8 b (IntKind.wrap .u8 s.1.2.2.2.1.2.1)).2 then (Zby P x72 s.1.2.2.2.1.2.2.1).2.2.2.2.2.2.2.2.2.2.2.2.2.2.2.2.2.2.1 else P.2.2.2.2.2.2.2.2.2.2.2.2.2.2.2.2.2.2.1 else P.2.2.2.2.2.2.2.2.2.2.2.2.2.2.2.2.2.2.1),(bif Zal s i then bif s.1.2.2.2.1.1 !=7 then P.2.2.2.2.2.2.2.2.2.2.2.2.2.2.2.2.2.2.2 else bif (Z8 b (IntKind.wrap .u8 s.1.2.2.2.1.2.1)).2 then (Zby P x72 s.1.2.2.2.1.2.2.1).2.2.2.2.2.2.2.2.2.2.2.2.2.2.2.2.2.2.2 else P.2.2.2.2.2.2.2.2.2.2.2.2.2.2.2.2.2.2.2 else P.2.2.2.2.2.2.2.2.2.2.2.2.2.2.2.2.2.2.2)),
   ((bif Zal s i then bif s.1.2.2.2.1.1 !=7 then s.2.2.2.1.1 else bif (Z8 b (IntKind.wrap .u8 s.1.2.2.2.1.2.1)).2 then s.2.2.2.1.1 else bif (Zca b (IntKind.wrap .u8 s.1.2.2.2.1.2.1)).2 then (ZeA s.2.2.2.1 (Zca b (IntKind.wrap .u8 s.1.2.2.2.1.2.1)).1 s.1.2.2.2.1.2.2.1).1 else s.2.2.2.1.1 else s.2.2.2.1.1),(bif Zal s i then bif s.1.2.2.2.1.1 !=7 then s.2.2.2.1.2.1 else bif (Z8 b (IntKind.wrap .u8 s.1.2.2.2.1.2.1)).2 then s.2.2.2.1.2.1 else bif (Zca b (IntKind.wrap .u8 s.1.2.2.2.1.2.1)).2 then (ZeA s.2.2.2.1 (Zca b (IntKind.wrap .u8 s.1.2.2.2.1.2.1)).1 s.1.2.2.2.1.2.2.1).2.1 else s.2.2.2.1.2.1 else s.2.2.2.1.2.1),(bif Zal s i then bif s.1.2.2.2.1.1 !=7 then s.2.2.2.1.2.2 else bif (Z8 b (IntKind.wrap .u8 s.1.2.2.2.1.2.1)).2 then s.2.2.2.1.2.2 else bif (Zca b (IntKind.wrap .u8 s.1.2.2.2.1.2.1)).2 then (ZeA s.2.2.2.1 (Zca b (IntKind.wrap .u8 s.1.2.2.2.1.2.1)).1 s.1.2.2.2.1.2.2.1).2.2 else s.2.2.2.1.2.2 else s.2.2.2.1.2.2)),
   ZbN s,(bif Zal s i then bif s.1.2.2.2.1.1 !=7 then s.2.2.2.2.2 else s.2.2.2.2.2++[(IntKind.wrap .u8 s.1.2.2.2.1.2.1,s.1.2.2.2.1.2.2.1)] else s.2.2.2.2.2)):=by
 obtain⟨k1,k2,k3⟩:=Zky b (ZZ b s i) i;have hc:ZhL b s i=(C,s.2.1,P,s.2.2.2.1,ZbN s,s.2.2.2.2.2):=by unfold ZhL;dsimp only;rw[k1,k2,k3,hC,hP];rfl
 unfold ZbB;rw[hc];cases Zal s i
 ·rfl
 ·simp only[Yb];unfold ZgZ;dsimp only;cases s.1.2.2.2.1.1 !=7
  ·simp only[Yc];cases hq:(Z8 b (IntKind.wrap .u8 s.1.2.2.2.1.2.1)).2
   ·simp only[Yc];cases (Zca b (IntKind.wrap .u8 s.1.2.2.2.1.2.1)).2<;>rfl
   ·simp only[Yb];rw[hx hq]
  ·rfl
theorem pic_p (x5 me x20 J x71:Bool) (Q A R:PICT):(bif x5 then bif me then Q else bif x20 then (bif !J then A else Q) else bif x71 then R else Q else Q)=
  ((bif x5 then bif me then Q.1 else bif x20 then bif !J then A.1 else Q.1 else bif x71 then R.1 else Q.1 else Q.1),(bif x5 then bif me then Q.2.1 else bif x20 then bif !J then A.2.1 else Q.2.1 else bif x71 then R.2.1 else Q.2.1 else Q.2.1),(bif x5 then bif me then Q.2.2.1 else bif x20 then bif !J then A.2.2.1 else Q.2.2.1 else bif x71 then R.2.2.1 else Q.2.2.1 else Q.2.2.1),(bif x5 then bif me then Q.2.2.2.1 else bif x20 then bif !J then A.2.2.2.1 else Q.2.2.2.1 else bif x71 then R.2.2.2.1 else Q.2.2.2.1 else Q.2.2.2.1),(bif x5 then bif me then Q.2.2.2.2.1 else bif x20 then bif !J then A.2.2.2.2.1 else Q.2.2.2.2.1 else bif x71 then R.2.2.2.2.1 else Q.2.2.2.2.1 else Q.2.2.2.2.1),(bif x5 then bif me then Q.2.2.2.2.2.1 else bif x20 then bif !J then A.2.2.2.2.2.1 else Q.2.2.2.2.2.1 else bif x71 then R.2.2.2.2.2.1 else Q.2.2.2.2.2.1 else Q.2.2.2.2.2.1),(bif x5 then bif me then Q.2.2.2.2.2.2.1 else bif x20 then bif !J then A.2.2.2.2.2.2.1 else Q.2.2.2.2.2.2.1 else bif x71 then R.2.2.2.2.2.2.1 else Q.2.2.2.2.2.2.1 else Q.2.2.2.2.2.2.1),(bif x5 then bif me then Q.2.2.2.2.2.2.2.1 else bif x20 then bif !J then A.2.2.2.2.2.2.2.1 else Q.2.2.2.2.2.2.2.1 else bif x71 then R.2.2.2.2.2.2.2.1 else Q.2.2.2.2.2.2.2.1 else Q.2.2.2.2.2.2.2.1),(bif x5 then bif me then Q.2.2.2.2.2.2.2.2.1 else bif x20 then bif !J then A.2.2.2.2.2.2.2.2.1 else Q.2.2.2.2.2.2.2.2.1 else bif x71 then R.2.2.2.2.2.2.2.2.1 else Q.2.2.2.2.2.2.2.2.1 else Q.2.2.2.2.2.2.2.2.1),(bif x5 then bif me then Q.2.2.2.2.2.2.2.2.2.1 else bif x20 then bif !J then A.2.2.2.2.2.2.2.2.2.1 else Q.2.2.2.2.2.2.2.2.2.1 else bif x71 then R.2.2.2.2.2.2.2.2.2.1 else Q.2.2.2.2.2.2.2.2.2.1 else Q.2.2.2.2.2.2.2.2.2.1),(bif x5 then bif me then Q.2.2.2.2.2.2.2.2.2.2.1 else bif x20 then bif !J then A.2.2.2.2.2.2.2.2.2.2.1 else Q.2.2.2.2.2.2.2.2.2.2.1 else bif x71 then R.2.2.2.2.2.2.2.2.2.2.1 else Q.2.2.2.2.2.2.2.2.2.2.1 else Q.2.2.2.2.2.2.2.2.2.2.1),(bif x5 then bif me then Q.2.2.2.2.2.2.2.2.2.2.2.1 else bif x20 then bif !J then A.2.2.2.2.2.2.2.2.2.2.2.1 else Q.2.2.2.2.2.2.2.2.2.2.2.1 else bif x71 then R.2.2.2.2.2.2.2.2.2.2.2.1 else Q.2.2.2.2.2.2.2.2.2.2.2.1 else Q.2.2.2.2.2.2.2.2.2.2.2.1),(bif x5 then bif me then Q.2.2.2.2.2.2.2.2.2.2.2.2.1 else bif x20 then bif !J then A.2.2.2.2.2.2.2.2.2.2.2.2.1 else Q.2.2.2.2.2.2.2.2.2.2.2.2.1 else bif x71 then R.2.2.2.2.2.2.2.2.2.2.2.2.1 else Q.2.2.2.2.2.2.2.2.2.2.2.2.1 else Q.2.2.2.2.2.2.2.2.2.2.2.2.1),(bif x5 then bif me then Q.2.2.2.2.2.2.2.2.2.2.2.2.2.1 else bif x20 then bif !J then A.2.2.2.2.2.2.2.2.2.2.2.2.2.1 else Q.2.2.2.2.2.2.2.2.2.2.2.2.2.1 else bif x71 then R.2.2.2.2.2.2.2.2.2.2.2.2.2.1 else Q.2.2.2.2.2.2.2.2.2.2.2.2.2.1 else Q.2.2.2.2.2.2.2.2.2.2.2.2.2.1),(bif x5 then bif me then Q.2.2.2.2.2.2.2.2.2.2.2.2.2.2.1 else bif x20 then bif !J then A.2.2.2.2.2.2.2.2.2.2.2.2.2.2.1 else Q.2.2.2.2.2.2.2.2.2.2.2.2.2.2.1 else bif x71 then R.2.2.2.2.2.2.2.2.2.2.2.2.2.2.1 else Q.2.2.2.2.2.2.2.2.2.2.2.2.2.2.1 else Q.2.2.2.2.2.2.2.2.2.2.2.2.2.2.1),(bif x5 then bif me then Q.2.2.2.2.2.2.2.2.2.2.2.2.2.2.2.1 else bif x20 then bif !J then A.2.2.2.2.2.2.2.2.2.2.2.2.2.2.2.1 else Q.2.2.2.2.2.2.2.2.2.2.2.2.2.2.2.1 else bif x71 then R.2.2.2.2.2.2.2.2.2.2.2.2.2.2.2.1 else Q.2.2.2.2.2.2.2.2.2.2.2.2.2.2.2.1 else Q.2.2.2.2.2.2.2.2.2.2.2.2.2.2.2.1),(bif x5 then bif me then Q.2.2.2.2.2.2.2.2.2.2.2.2.2.2.2.2.1 else bif x20 then bif !J then A.2.2.2.2.2.2.2.2.2.2.2.2.2.2.2.2.1 else Q.2.2.2.2.2.2.2.2.2.2.2.2.2.2.2.2.1 else bif x71 then R.2.2.2.2.2.2.2.2.2.2.2.2.2.2.2.2.1 else Q.2.2.2.2.2.2.2.2.2.2.2.2.2.2.2.2.1 else Q.2.2.2.2.2.2.2.2.2.2.2.2.2.2.2.2.1),(bif x5 then bif me then Q.2.2.2.2.2.2.2.2.2.2.2.2.2.2.2.2.2.1 else bif x20 then bif !J then A.2.2.2.2.2.2.2.2.2.2.2.2.2.2.2.2.2.1 else Q.2.2.2.2.2.2.2.2.2.2.2.2.2.2.2.2.2.1 else bif x71 then R.2.2.2.2.2.2.2.2.2.2.2.2.2.2.2.2.2.1 else Q.2.2.2.2.2.2.2.2.2.2.2.2.2.2.2.2.2.1 else Q.2.2.2.2.2.2.2.2.2.2.2.2.2.2.2.2.2.1),(bif x5 then bif me then Q.2.2.2.2.2.2.2.2.2.2.2.2.2.2.2.2.2.2.1 else bif x20 then bif !J then A.2.2.2.2.2.2.2.2.2.2.2.2.2.2.2.2.2.2.1 else Q.2.2.2.2.2.2.2.2.2.2.2.2.2.2.2.2.2.2.1 else bif x71 then R.2.2.2.2.2.2.2.2.2.2.2.2.2.2.2.2.2.2.1 else Q.2.2.2.2.2.2.2.2.2.2.2.2.2.2.2.2.2.2.1 else Q.2.2.2.2.2.2.2.2.2.2.2.2.2.2.2.2.2.2.1),(bif x5 then bif me then Q.2.2.2.2.2.2.2.2.2.2.2.2.2.2.2.2.2.2.2 else bif x20 then bif !J then A.2.2.2.2.2.2.2.2.2.2.2.2.2.2.2.2.2.2.2 else Q.2.2.2.2.2.2.2.2.2.2.2.2.2.2.2.2.2.2.2 else bif x71 then R.2.2.2.2.2.2.2.2.2.2.2.2.2.2.2.2.2.2.2 else Q.2.2.2.2.2.2.2.2.2.2.2.2.2.2.2.2.2.2.2 else Q.2.2.2.2.2.2.2.2.2.2.2.2.2.2.2.2.2.2.2)):=by
 cases x5
 ·rfl
 ·cases me
  ·cases x20
   ·cases x71<;>rfl
   ·cases J<;>rfl
  ·rfl
theorem ZrK (b:BRDT) (s:SYST) (i:INPT) (hg:smG b.2.1=true) (hc:s.2.1.length<=900000) (ho:s.2.2.2.2.2.length<=900000) (hk:s.1.2.2.1.length<=900000) (hp:inR .u8 b.2.2.2.1):
  (ZkB b s i).val=some ((Z9 b s i).1,(Z9 b s i).2.1):=by
 have hms:=mst;obtain⟨p1,p2⟩:=ZZl (p:=IntKind.wrap .u8 s.1.2.2.2.1.2.1) (Zax .u8 _) hp;have b1:Nat.ble (List.length s.1.2.2.1) most=true:=ZaF (by omega);have b2:Nat.ble (List.length s.2.1) most=true:=ZaF (by omega);have b3:Nat.ble (List.length s.2.2.2.2.2) most=true:=ZaF (by omega);have b4:∀y:Int×Int,Nat.ble (List.length (s.2.2.2.2.2++[y])) most=true:=λy=>ZaF (by simp;omega)
 have b5:smC s.2.1=true:=smCb (by omega);have b6:∀t v,smC (ZaV b.2.1 s.2.1 t v)=true:=λt v=>smCb (by have:=Znn b.2.1 s.2.1 t v;omega)
 have b7:∀c1 c2:Bool,∀t v,smC (bif c1 then bif c2 then ZaV b.2.1 s.2.1 t v else s.2.1 else s.2.1)=true:=λc1 c2 t v=>by cases c1<;>cases c2<;>first|exact b6 t v|exact b5
 have e8:(s.1.1,s.1.2.1,(bif !i.2.2.1 then s.1.2.2.1 else s.1.2.2.1),s.1.2.2.2)=s.1:=by cases i.2.2.1<;>rfl
 have b9:Zms s.1=true:=ZdV.2 (by omega);have hb:=bus_p b (ZZ b s i) i (!i.2.2.1&&(Zad s.1==3&&Zbi s.1.2.2.2.1.1)) (s.1.2.2.2.1.1==8||s.1.2.2.2.1.1==9) (!b.2.2.2.2.2.1&&decide (IntKind.wrap .u8 (IntKind.wrap .u8 s.1.2.2.2.1.2.1-b.2.2.2.1)<2)) (IntKind.wrap .u8 (IntKind.wrap .u8 s.1.2.2.2.1.2.1-b.2.2.2.1)==1) rfl rfl
  (by rw[ZLq,p1];rfl) (λh=>by rw[ZLq];simp only[Ya] at h;exact p2 h.2) (λh=>by rw[h];rfl)
 obtain⟨Q,hQ⟩:∃Q,(ZZ b s i).2.2.1=Q:=⟨_,rfl⟩;have hQ0:Q=bif !b.2.2.2.2.2.1 then ZaL s.2.2.1 i.2.2.2.2.2.2.2.2.1 else s.2.2.1:=hQ.symm
 have q0:(bif b.2.2.2.2.2.1 then s.2.2.1.1 else (ZaL s.2.2.1 i.2.2.2.2.2.2.2.2.1).1)=Q.1:=by rw[hQ0];cases b.2.2.2.2.2.1<;>rfl
 have q1:(bif b.2.2.2.2.2.1 then s.2.2.1.2.1 else (ZaL s.2.2.1 i.2.2.2.2.2.2.2.2.1).2.1)=Q.2.1:=by rw[hQ0];cases b.2.2.2.2.2.1<;>rfl
 have q2:(bif b.2.2.2.2.2.1 then s.2.2.1.2.2.1 else (ZaL s.2.2.1 i.2.2.2.2.2.2.2.2.1).2.2.1)=Q.2.2.1:=by rw[hQ0];cases b.2.2.2.2.2.1<;>rfl
 have q3:(bif b.2.2.2.2.2.1 then s.2.2.1.2.2.2.1 else (ZaL s.2.2.1 i.2.2.2.2.2.2.2.2.1).2.2.2.1)=Q.2.2.2.1:=by rw[hQ0];cases b.2.2.2.2.2.1<;>rfl
 have q4:(bif b.2.2.2.2.2.1 then s.2.2.1.2.2.2.2.1 else (ZaL s.2.2.1 i.2.2.2.2.2.2.2.2.1).2.2.2.2.1)=Q.2.2.2.2.1:=by rw[hQ0];cases b.2.2.2.2.2.1<;>rfl
 have q5:(bif b.2.2.2.2.2.1 then s.2.2.1.2.2.2.2.2.1 else (ZaL s.2.2.1 i.2.2.2.2.2.2.2.2.1).2.2.2.2.2.1)=Q.2.2.2.2.2.1:=by rw[hQ0];cases b.2.2.2.2.2.1<;>rfl
 have q6:(bif b.2.2.2.2.2.1 then s.2.2.1.2.2.2.2.2.2.1 else (ZaL s.2.2.1 i.2.2.2.2.2.2.2.2.1).2.2.2.2.2.2.1)=Q.2.2.2.2.2.2.1:=by rw[hQ0];cases b.2.2.2.2.2.1<;>rfl
 have q7:(bif b.2.2.2.2.2.1 then s.2.2.1.2.2.2.2.2.2.2.1 else (ZaL s.2.2.1 i.2.2.2.2.2.2.2.2.1).2.2.2.2.2.2.2.1)=Q.2.2.2.2.2.2.2.1:=by rw[hQ0];cases b.2.2.2.2.2.1<;>rfl
 have q8:(bif b.2.2.2.2.2.1 then s.2.2.1.2.2.2.2.2.2.2.2.1 else (ZaL s.2.2.1 i.2.2.2.2.2.2.2.2.1).2.2.2.2.2.2.2.2.1)=Q.2.2.2.2.2.2.2.2.1:=by rw[hQ0];cases b.2.2.2.2.2.1<;>rfl
 have q9:(bif b.2.2.2.2.2.1 then s.2.2.1.2.2.2.2.2.2.2.2.2.1 else (ZaL s.2.2.1 i.2.2.2.2.2.2.2.2.1).2.2.2.2.2.2.2.2.2.1)=Q.2.2.2.2.2.2.2.2.2.1:=by rw[hQ0];cases b.2.2.2.2.2.1<;>rfl
 have q10:(bif b.2.2.2.2.2.1 then s.2.2.1.2.2.2.2.2.2.2.2.2.2.1 else (ZaL s.2.2.1 i.2.2.2.2.2.2.2.2.1).2.2.2.2.2.2.2.2.2.2.1)=Q.2.2.2.2.2.2.2.2.2.2.1:=by rw[hQ0];cases b.2.2.2.2.2.1<;>rfl
 have q11:(bif b.2.2.2.2.2.1 then s.2.2.1.2.2.2.2.2.2.2.2.2.2.2.1 else (ZaL s.2.2.1 i.2.2.2.2.2.2.2.2.1).2.2.2.2.2.2.2.2.2.2.2.1)=Q.2.2.2.2.2.2.2.2.2.2.2.1:=by rw[hQ0];cases b.2.2.2.2.2.1<;>rfl
 have q12:(bif b.2.2.2.2.2.1 then s.2.2.1.2.2.2.2.2.2.2.2.2.2.2.2.1 else (ZaL s.2.2.1 i.2.2.2.2.2.2.2.2.1).2.2.2.2.2.2.2.2.2.2.2.2.1)=Q.2.2.2.2.2.2.2.2.2.2.2.2.1:=by rw[hQ0];cases b.2.2.2.2.2.1<;>rfl
 have q13:(bif b.2.2.2.2.2.1 then s.2.2.1.2.2.2.2.2.2.2.2.2.2.2.2.2.1 else (ZaL s.2.2.1 i.2.2.2.2.2.2.2.2.1).2.2.2.2.2.2.2.2.2.2.2.2.2.1)=Q.2.2.2.2.2.2.2.2.2.2.2.2.2.1:=by rw[hQ0];cases b.2.2.2.2.2.1<;>rfl
 have q14:(bif b.2.2.2.2.2.1 then s.2.2.1.2.2.2.2.2.2.2.2.2.2.2.2.2.2.1 else (ZaL s.2.2.1 i.2.2.2.2.2.2.2.2.1).2.2.2.2.2.2.2.2.2.2.2.2.2.2.1)=Q.2.2.2.2.2.2.2.2.2.2.2.2.2.2.1:=by rw[hQ0];cases b.2.2.2.2.2.1<;>rfl
 have q15:(bif b.2.2.2.2.2.1 then s.2.2.1.2.2.2.2.2.2.2.2.2.2.2.2.2.2.2.1 else (ZaL s.2.2.1 i.2.2.2.2.2.2.2.2.1).2.2.2.2.2.2.2.2.2.2.2.2.2.2.2.1)=Q.2.2.2.2.2.2.2.2.2.2.2.2.2.2.2.1:=by rw[hQ0];cases b.2.2.2.2.2.1<;>rfl
 have q16:(bif b.2.2.2.2.2.1 then s.2.2.1.2.2.2.2.2.2.2.2.2.2.2.2.2.2.2.2.1 else (ZaL s.2.2.1 i.2.2.2.2.2.2.2.2.1).2.2.2.2.2.2.2.2.2.2.2.2.2.2.2.2.1)=Q.2.2.2.2.2.2.2.2.2.2.2.2.2.2.2.2.1:=by rw[hQ0];cases b.2.2.2.2.2.1<;>rfl
 have q17:(bif b.2.2.2.2.2.1 then s.2.2.1.2.2.2.2.2.2.2.2.2.2.2.2.2.2.2.2.2.1 else (ZaL s.2.2.1 i.2.2.2.2.2.2.2.2.1).2.2.2.2.2.2.2.2.2.2.2.2.2.2.2.2.2.1)=Q.2.2.2.2.2.2.2.2.2.2.2.2.2.2.2.2.2.1:=by rw[hQ0];cases b.2.2.2.2.2.1<;>rfl
 have q18:(bif b.2.2.2.2.2.1 then s.2.2.1.2.2.2.2.2.2.2.2.2.2.2.2.2.2.2.2.2.2.1 else (ZaL s.2.2.1 i.2.2.2.2.2.2.2.2.1).2.2.2.2.2.2.2.2.2.2.2.2.2.2.2.2.2.2.1)=Q.2.2.2.2.2.2.2.2.2.2.2.2.2.2.2.2.2.2.1:=by rw[hQ0];cases b.2.2.2.2.2.1<;>rfl
 have q19:(bif b.2.2.2.2.2.1 then s.2.2.1.2.2.2.2.2.2.2.2.2.2.2.2.2.2.2.2.2.2.2 else (ZaL s.2.2.1 i.2.2.2.2.2.2.2.2.1).2.2.2.2.2.2.2.2.2.2.2.2.2.2.2.2.2.2.2)=Q.2.2.2.2.2.2.2.2.2.2.2.2.2.2.2.2.2.2.2:=by rw[hQ0];cases b.2.2.2.2.2.1<;>rfl
 obtain⟨L,hL⟩:∃L,ZeX b (ZZ b s i) i=L:=⟨_,rfl⟩;have hL':(i.1&&(bif decide (s.1.2.2.2.1.1>=1)&&decide (s.1.2.2.2.1.1<=5) then decide (ZbN s>=Zey b.2.1 s.1.2.2.2.1.2.1) else bif s.1.2.2.2.1.1==6||s.1.2.2.2.1.1==7 then decide (ZbN s>=ZjB b.2.2.1) else decide (ZbN s>=0)),i.2.1||ZM s.2.2.2.1,i.2.2.1,i.2.2.2.1,i.2.2.2.2.1,i.2.2.2.2.2.1,i.2.2.2.2.2.2.1,i.2.2.2.2.2.2.2.1,bif b.2.2.2.2.2.1 then andI .u8 i.2.2.2.2.2.2.2.2.1 1==1 else vInt (ZaL s.2.2.1 i.2.2.2.2.2.2.2.2.1))=L:=(Z5H b s i hg).symm.trans hL;have hpic:=pic_p (!i.2.2.1&&(Zad s.1==3&&Zbi s.1.2.2.2.1.1)) (decide (s.1.2.2.2.1.1>=1)&&decide (s.1.2.2.2.1.1<=5)) (s.1.2.2.2.1.1==8||s.1.2.2.2.1.1==9) b.2.2.2.2.2.1 (!b.2.2.2.2.2.1&&decide (IntKind.wrap .u8 ((IntKind.wrap .u8 s.1.2.2.2.1.2.1)-b.2.2.2.1)<2)) Q (vAck Q).1 (ZkJ Q (IntKind.wrap .u8 ((IntKind.wrap .u8 s.1.2.2.2.1.2.1)-b.2.2.2.1)==1)).1;rw[hQ] at hb;obtain⟨D,hD⟩:∃D,(busS b (ZZ b s i) i).2=D:=⟨_,rfl⟩;have hD':(bif (!i.2.2.1&&(Zad s.1==3&&Zbi s.1.2.2.2.1.1)) then bif (decide (s.1.2.2.2.1.1>=1)&&decide (s.1.2.2.2.1.1<=5)) then Zfn b.2.1 s.2.1 s.1.2.2.2.1.2.1 else bif (s.1.2.2.2.1.1==8||s.1.2.2.2.1.1==9) then bif !b.2.2.2.2.2.1 then (vAck Q).2 else i.2.2.2.2.2.2.2.2.2 else bif (!b.2.2.2.2.2.1&&decide (IntKind.wrap .u8 ((IntKind.wrap .u8 s.1.2.2.2.1.2.1)-b.2.2.2.1)<2)) then (ZkJ Q (IntKind.wrap .u8 ((IntKind.wrap .u8 s.1.2.2.2.1.2.1)-b.2.2.2.1)==1)).2 else bif decide (IntKind.wrap .u8 ((IntKind.wrap .u8 s.1.2.2.2.1.2.1)-b.2.2.2.2.1)<4) then Zis s.2.2.2.1 (IntKind.wrap .i64 (IntKind.wrap .u8 ((IntKind.wrap .u8 s.1.2.2.2.1.2.1)-b.2.2.2.2.1))) else i.2.2.2.2.2.2.2.2.2 else 0)=D:=by rw[<-hD,hb,Z2Q];rfl
 have hB1:_=(busS b (ZZ b s i) i).1.2.2.1:=hpic.symm.trans (by rw[hb];rfl);have hP:pinS b s i=Zmt s.1 L D:=by unfold pinS;rw[(Zky b (ZZ b s i) i).1,hL,hD];rfl
 have hpins:(Z9 b s i).2.1=Zmt s.1 L D:=hP;rw[hpins,Z6c,hP,Z28 b s i (ZbM s.1 L D) _ (by rw[hL,hD]) hB1 (IntKind.wrap .u8 ((IntKind.wrap .u8 s.1.2.2.2.1.2.1)-b.2.2.2.1)==1) (λh=>by rw[ZLq] at h|-;rw[<-p1] at h;simp only[Ya] at h;exact p2 h.2)];unfold asmP Zal ZPe;dsimp only;unfold ZkB;simp only[RT.val,b1,b2,b3,b4,b5,b7,e8,b9,hg,mem15,ZXM,Z7D,Z6A,clkX,pstR,ZbQ,ZaM,ZLq,Z2Q,<-p1,Bool.and_assoc,YaE,YY,Yh,Yf,Yj,Yu,Yb,q0,q1,q2,q3,q4,q5,q6,q7,q8,q9,q10,q11,q12,q13,q14,q15,q16,q17,q18,q19,hL',hD']
def Zg8 (b:BRDT) (s:SYST):Bool:=smG b.2.1&&(Nat.ble s.2.1.length 900000&&(Nat.ble s.2.2.2.2.2.length 900000&&Nat.ble s.1.2.2.1.length 900000))
def ZCy:En:=Zf Zy4 ZkC (λa=>some (Zg8 a.1 a.2.1)) (λa=>((Z9 a.1 a.2.1 a.2.2).1,(Z9 a.1 a.2.1 a.2.2).2.1))
theorem ZHJ:Za Tryz.prog 63 ZCy:=ZPt.pure_congr
 (λa h hp=>by
  have hp:Zg8 a.1 a.2.1=true:=by simpa using hp
  simp only[Zg8,Ya,Yz] at hp;have hv:=ZrK a.1 a.2.1 a.2.2 hp.1 hp.2.1 hp.2.2.1 hp.2.2.2 h.1.2.2.2.1
  simp[ZLO,hv,okB])
 (λa h hp=>by
  have hp:Zg8 a.1 a.2.1=true:=by simpa using hp
  simp only[Zg8,Ya,Yz] at hp;have hv:=ZrK a.1 a.2.1 a.2.2 hp.1 hp.2.1 hp.2.2.1 hp.2.2.2 h.1.2.2.2.1
  simp only[ZXA,hv,getO])
def inpX (a b c k:Int):INPT:=bif k !=ZgE a b c then ZP else
 (andI u8 a 1==0,andI u8 a 2 !=0,andI u8 a 4 !=0,andI u8 a 8 !=0,andI u8 a 16 !=0,andI u8 a 32 !=0,andI u8 a 64 !=0,andI u8 a 128 !=0,b,c)
def decX:List Int->List INPT
 |a::b::c::k::l=>inpX a b c k::decX l
 |_=>[]
theorem drop4 (l:List Int) (i:Nat) (h:i+4<=l.length):l.drop i=R.get (R.int .u8) l (i:Int)::R.get (R.int .u8) l ((i+1:Nat):Int)::R.get (R.int .u8) l ((i+2:Nat):Int)::R.get (R.int .u8) l ((i+3:Nat):Int)::l.drop (i+4):=by
 have hg:∀j:Nat,(hj:j<l.length)->R.get (R.int .u8) l (j:Int)=l[j]:=λj hj=>by simp[R.get,hj]
 rw[Y8 (by omega:i<l.length),Y8 (by omega:i+1<l.length),Y8 (by omega:i+1+1<l.length),Y8 (by omega:i+1+1+1<l.length)];rw[hg i (by omega),hg (i+1) (by omega),hg (i+2) (by omega),hg (i+3) (by omega)]
variable {l:List Int}
theorem ZXd (h:l.length<4):decX l=[]:=by
 match l with
 |[]=>rfl
 |[_]=>rfl
 |[_,_]=>rfl
 |[_,_,_]=>rfl
 |_::_::_::_::_=>simp at h;omega
theorem dec_len:∀l:List Int,(decX l).length=l.length/4
 |a::b::c::k::l=>by have:=dec_len l;simp only[decX,List.length_cons,this];omega
 |[]=>by simp[decX]
 |[_]=>by simp[decX]
 |[_,_]=>by simp[decX]
 |[_,_,_]=>by simp[decX]
def ZIF (a:Int) (b:Int) (c:Int):RT (Int):=
 .Lf (xorI u8 (xorI u8 (xorI u8 a b) c) 165)
def ZDo (a:Int) (b:Int) (c:Int):Int:=(ZIF a b c).val
def ZuG:En:=Zf ZH2 ZVv (λ_=>none) (λa=>ZDo a.1 a.2.1 a.2.2)
theorem ZsJ:Za prog 128 ZuG:=
 pureQ 127 [] [] ZH2 ZVv trivial Tryz.func128 Tryz.call128 trivial (t:=λa=>ZIF a.1 a.2.1 a.2.2)
def ZRf:RT INPT:=
 .Lf ((true,false,false,false,false,false,false,false,0,0))
def ZgG:INPT:=(ZRf).val
def ZDl:En:=Zf ZAG ZP0 (λ_=>none) (λa=>ZgG)
theorem ZzK:Za prog 86 ZDl:=
 pureQ 1 [] [] ZAG ZP0 trivial Tryz.func86 Tryz.call86 trivial (t:=λa=>ZRf)
def ZfO:En:=.tree (Zq (envX prog [] [] 15 8) Tryz.f190)
theorem ZiM:Za prog 190 ZfO:=ZD trivial Tryz.func190 rfl (by kernel_rfl) Tryz.call190 trivial
def ZIC (c:Int):RT INPT:=
 .Lf ((!andI u8 (shrI u8 c 0) 1==1,andI u8 (shrI u8 c 1) 1==1,andI u8 (shrI u8 c 2) 1==1,andI u8 (shrI u8 c 3) 1==1,andI u8 (shrI u8 c 4) 1==1,andI u8 (shrI u8 c 5) 1==1,andI u8 (shrI u8 c 6) 1==1,andI u8 (shrI u8 c 7) 1==1,0,0))
def ZaJ (c:Int):INPT:=(ZIC c).val
def ZuD:En:=Zf ZBb ZP0 (λ_=>none) (λa=>ZaJ a)
theorem ZsH:Za prog 129 ZuD:=
 pureQ 15 [(190,ZfO)] [] ZBb ZP0 ⟨ZiM,Tv⟩ Tryz.func129 Tryz.call129 trivial (t:=λa=>ZIC a)
def ZDn:LS:={n:=44,Sl:=[(0,.code (So (R.sl Ka))),(3,.tip 0)],Bx:=[],Sg:=[⟨Zb8,122,true⟩]}
def ZcU (a:List Int×List INPT×PUnit):RT (Option (Go1 (List Int×List INPT×PUnit))):=
 let x1:=decide (0<=4)&&decide (4<=iN (Le a.1))&&(decide (iN (Le a.1)=0)||decide (iN (Le a.1)<=iN (Le a.1)))
 let x2:=ZDo (R.get Ka a.1 0) (R.get Ka a.1 (iN (0+1))) (R.get Ka a.1 (iN (0+1+1)))==R.get Ka a.1 (iN (0+1+1+1))
 let x3:List INPT:=a.2.1++[(bif x2 then (ZaJ (R.get Ka a.1 0)).1 else ZgG.1,bif x2 then (ZaJ (R.get Ka a.1 0)).2.1 else ZgG.2.1,bif x2 then (ZaJ (R.get Ka a.1 0)).2.2.1 else ZgG.2.2.1,bif x2 then (ZaJ (R.get Ka a.1 0)).2.2.2.1 else ZgG.2.2.2.1,bif x2 then (ZaJ (R.get Ka a.1 0)).2.2.2.2.1 else ZgG.2.2.2.2.1,bif x2 then (ZaJ (R.get Ka a.1 0)).2.2.2.2.2.1 else ZgG.2.2.2.2.2.1,bif x2 then (ZaJ (R.get Ka a.1 0)).2.2.2.2.2.2.1 else ZgG.2.2.2.2.2.2.1,bif x2 then (ZaJ (R.get Ka a.1 0)).2.2.2.2.2.2.2.1 else ZgG.2.2.2.2.2.2.2.1,bif x2 then R.get Ka a.1 (iN (0+1)) else ZgG.2.2.2.2.2.2.2.2.1,bif x2 then R.get Ka a.1 (iN (0+1+1)) else ZgG.2.2.2.2.2.2.2.2.2)]
 .br (decide (iN (Le a.1)>=4)&&decide (iN (Le a.2.1)<65536)) (.br (!Nat.ble 4 (Le a.1)||(!x1||Nat.ble (Le x3) most)) (.br (!Nat.ble 4 (Le a.1)||x1) (.br (Nat.ble 4 (Le a.1)) (Ls (Go1.cont (subL a.1 4 (iN (Le a.1)),x3,PUnit.unit))) Ln) Ln) Ln) (Ls (Go1.brk (a.1,a.2.1,PUnit.unit)))
def ZnV:Ora:=Zbn false ZDn ZcU (λa=>1000000000000)
theorem ZuE:ZaU (envX prog [(86,ZDl),(128,ZuG),(129,ZuD)] [] 63 8) (.block 0 (.loop (Z7 Tryz.f74.body 0))) ZnV:=
 loopP ⟨ZzK,ZsJ,ZsH,Tv⟩
def Zg3 (l:List Int):RT (Option (List INPT)):=
 .br (okB (runF false ZcU (λa=>1000000000000) (l,[],()))) (Ls (getO (false,l,[],()) (runF false ZcU (λa=>1000000000000) (l,[],()))).2.2.1) Ln
def ZuF (l:List Int):List INPT:=getO Znv.Df (Zg3 l).val
def ZnW (l:List Int):Bool:=okB (Zg3 l).val
def ZRg:En:=Zf Zzc Znv (λa=>some (ZnW a)) (λa=>ZuF a)
theorem ZDm:Za prog 74 ZRg:=
 pureP 63 [(86,ZDl),(128,ZuG),(129,ZuD)] [(0,ZnV)] Zzc Znv ⟨ZzK,ZsJ,ZsH,Tv⟩ Tryz.func74 Tryz.call74 ⟨ZuE,Tv⟩ (t:=λa=>Zg3 a)
theorem ZWG:(List.range 256).all (λc=>(List.all [(ZaJ (c:Int)).1==(andI u8 (c:Int) 1==0),(ZaJ (c:Int)).2.1==(andI u8 (c:Int) 2 !=0),(ZaJ (c:Int)).2.2.1==(andI u8 (c:Int) 4 !=0),(ZaJ (c:Int)).2.2.2.1==(andI u8 (c:Int) 8 !=0),
  (ZaJ (c:Int)).2.2.2.2.1==(andI u8 (c:Int) 16 !=0),(ZaJ (c:Int)).2.2.2.2.2.1==(andI u8 (c:Int) 32 !=0),(ZaJ (c:Int)).2.2.2.2.2.2.1==(andI u8 (c:Int) 64 !=0),(ZaJ (c:Int)).2.2.2.2.2.2.2.1==(andI u8 (c:Int) 128 !=0)] id))=true:=by kernel_rfl
theorem Z0x {c:Int} (h:inR .u8 c):(ZaJ c).1=(andI u8 c 1==0)/\(ZaJ c).2.1=(andI u8 c 2 !=0)/\(ZaJ c).2.2.1=(andI u8 c 4 !=0)/\(ZaJ c).2.2.2.1=(andI u8 c 8 !=0)/\
  (ZaJ c).2.2.2.2.1=(andI u8 c 16 !=0)/\(ZaJ c).2.2.2.2.2.1=(andI u8 c 32 !=0)/\(ZaJ c).2.2.2.2.2.2.1=(andI u8 c 64 !=0)/\(ZaJ c).2.2.2.2.2.2.2.1=(andI u8 c 128 !=0):=by rw[Zfv] at h;obtain⟨n,rfl⟩:∃n:Nat,c=(n:Int):=⟨c.toNat,by omega⟩;have:=YU.1 ZWG n (by simp;omega);simpa [List.all_cons] using this
theorem dec4 (l:List Int) (h:4<=l.length):l=R.get (R.int .u8) l 0::R.get (R.int .u8) l 1::R.get (R.int .u8) l 2::R.get (R.int .u8) l 3::l.drop 4:=by have:=drop4 l 0 (by omega);rw[List.drop_zero] at this;exact this
theorem Z5T (h:∀x∈l,inR .u8 x) (i:Int):inR .u8 (R.get (R.int .u8) l i):=by
 unfold R.get;rw[Yq];cases hq:l[i.toNat]? with
 |none=>exact⟨by decide,by decide⟩
 |some a=>exact h a (List.mem_of_getElem? hq)
theorem sub4 (l:List Int):subL l 4 (iN l.length)=l.drop 4:=by
 simp only[subL,iN];have e1:((4:Int).toNat)=4:=rfl;have e2:((l.length:Int)-4).toNat=l.length-4:=by omega
 first
  |(rw[e1,e2];exact YX (by simp))
  |(simp;exact YX (by simp))
theorem ZsI (l:List Int) (hl:l.length<=4000) (hin:∀x∈l,inR .u8 x):ZnW l=true/\ZuF l=decX l:=by
 have hms:=mst;obtain⟨r,hr,h0,h1⟩:=ZS (fl:=false) (t:=ZcU) (fuel:=λ_=>1000000000000)
  (λa=>∃(q:List Int) (o:List INPT),q.length+4*o.length=l.length/\(∀x∈q,inR .u8 x)/\o++decX q=decX l/\a=(q,o,()))
  (λa=>a.1.length) (λr=>r.1=false/\r.2.2.1=decX l)
  (by
   rintro a ⟨q,o,hq,hi,hd,rfl⟩;by_cases hlt:4<=q.length
   ·left;have d:(decide (iN q.length>=4)&&decide (iN o.length<65536))=true:=by simp only[iN,Ya,Yi];omega
    have d1:decide (iN o.length<65536)=true:=by simp only[iN,Yi];omega
    have b4:Nat.ble 4 q.length=true:=by rw[Yz];exact hlt
    have d4:decide (4<=iN q.length)=true:=by simp only[iN,Yi];omega
    have d0:decide ((0:Int)<=4)=true:=rfl;have dl:decide (iN q.length<=iN q.length)=true:=by simp
    have hb:∀a:INPT,Nat.ble (o++[a]).length most=true:=λa=>ZaF (by simp;omega)
    have i1:iN (0+1)=(1:Int):=rfl;have i2:iN (0+1+1)=(2:Int):=rfl;have i3:iN (0+1+1+1)=(3:Int):=rfl;have hin0:=Z5T hi 0;have hdr:q=R.get (R.int .u8) q 0::R.get (R.int .u8) q 1::R.get (R.int .u8) q 2::R.get (R.int .u8) q 3::q.drop 4:=dec4 q hlt;rw[hdr] at hd;have hck:∀a b c,ZDo a b c=ZgE a b c:=λa b c=>rfl
    obtain⟨q0,hq0⟩:∃q0,R.get (R.int .u8) q 0=q0:=⟨_,rfl⟩;obtain⟨q1,hq1⟩:∃q0,R.get (R.int .u8) q 1=q0:=⟨_,rfl⟩;obtain⟨q2,hq2⟩:∃q0,R.get (R.int .u8) q 2=q0:=⟨_,rfl⟩;obtain⟨q3,hq3⟩:∃q0,R.get (R.int .u8) q 3=q0:=⟨_,rfl⟩;rw[hq0,hq1,hq2,hq3] at hd;rw[hq0] at hin0;have hv:(ZcU (q,o,())).val=some (Go1.cont (q.drop 4,o++[inpX q0 q1 q2 q3],())):=by
     obtain⟨e1,e2,e3,e4,e5,e6,e7,e8⟩:=Z0x hin0;simp only[ZcU,RT.val,d,b4,d0,d4,dl,hb,i1,i2,i3,hq0,hq1,hq2,hq3,hck,sub4,e1,e2,e3,e4,e5,e6,e7,e8,ZbQ,ZaM,Yh,Yf,Yj,Yu,YY,YP,Yb,Yc];have hcm:(q3==ZgE q0 q1 q2)=(ZgE q0 q1 q2==q3):=Bool.eq_iff_iff.2 ⟨λh=>Yav.2 (Yav.1 h).symm,λh=>Yav.2 (Yav.1 h).symm⟩;have hne:(q3 !=ZgE q0 q1 q2)= !(ZgE q0 q1 q2==q3):=by rw[bne,hcm]
     have hs:ZgG=ZP:=rfl;unfold inpX;rw[hne];generalize (ZgE q0 q1 q2==q3)=bb;cases bb
     ·simp only[d1,Yb,Yc,Yf,Ym,hs];rfl
     ·simp only[d1,Yb,Yc,Yf,Ym];rfl
    refine⟨_,hv,⟨q.drop 4,o++[inpX q0 q1 q2 q3],by simp;omega,λx hx=>hi x (Yao hx),?_,rfl⟩,by simp;omega⟩;rw[<-hd];simp only[decX,Yp,List.cons_append,List.nil_append]
   ·right;left;have d:(decide (iN q.length>=4)&&decide (iN o.length<65536))=false:=by simp only[iN,Yad,Y6];left;omega
    refine⟨(q,o,()),by simp only[ZcU,RT.val,d,Yc],rfl,?_⟩;rw[ZXd (by omega),Y2] at hd
    exact hd)
  (l,[],()) ⟨l,[],by simp,hin,by simp,rfl⟩ (by simp only;omega)
 obtain⟨r1,r2⟩:=r;simp only at h0 h1;subst h0;have hv:(Zg3 l).val=some r2.2.1:=by simp only[Zg3,RT.val,hr,okB,getO,Yb]
 exact⟨by simp only[ZnW,hv];rfl,by simp only[ZuF,hv,getO];exact h1⟩
theorem dec_in {a:List Int} (h:okHL Zzc a):∀x∈a,inR .u8 x:=h.2
def ZRA (l:List Int):Bool:=Nat.ble l.length 4000
def ZkT:En:=Zf Zzc Znv (λa=>some (ZRA a)) (λa=>decX a)
theorem Zl3:Za Tryz.prog 74 ZkT:=ZDm.pure_congr
 (λa h hp=>by
  have hl:a.length<=4000:=by simpa [ZRA] using hp
  have h1:=(ZsI a hl (dec_in h)).1
  simp[h1])
 (λa h hp=>by
  have hl:a.length<=4000:=by simpa [ZRA] using hp
  exact (ZsI a hl (dec_in h)).2)
