import Derived.Test.YtghoimllhpjkjaaGreatR24L
open Go.Proofs.Tryz (prog)
open Go.IntKind (u8 u16 i64)
set_option linter.unusedSimpArgs false
open Go Go.S3 Go.Proofs
set_option linter.unusedVariables false
set_option maxRecDepth 100000
namespace Go.Proofs.YtghoimllhpjkjaaGreat
noncomputable section
def Zct:En:=.tree (ZO (envX prog [] [] 541622271 8) Tryz.f122)
theorem Zdj:Za prog 122 Zct:=Zaf (P:=prog) (n:=541622271) (k:=8) (l:=[]) (ol:=[]) trivial Tryz.func122 rfl (by kernel_rfl) Tryz.call122 trivial
def ZcE:En:=.tree (ZO (envX prog [] [] 63 8) Tryz.f197)
theorem Zhw:Za prog 197 ZcE:=Zaf (P:=prog) (n:=63) (k:=8) (l:=[]) (ol:=[]) trivial Tryz.func197 rfl (by kernel_rfl) Tryz.call197 trivial
def ZbP:En:=.tree (ZO (envX prog [(30,Zyj),(79,Zfz),(84,ZnI),(197,ZcE),(198,ZMf),(199,ZjH),(200,ZMv),(201,ZAm)] [] 32767 8) Tryz.f124)
theorem ZcD:Za prog 124 ZbP:=Zaf (P:=prog) (n:=32767) (k:=8) (l:=[(30,Zyj),(79,Zfz),(84,ZnI),(197,ZcE),(198,ZMf),(199,ZjH),(200,ZMv),(201,ZAm)]) (ol:=[]) ⟨Zuh,Zeg,ZnH,Zhw,ZTC,ZwT,ZTI,ZMD,Tv⟩ Tryz.func124 rfl (by kernel_rfl) Tryz.call124 trivial
abbrev ZWA:List Sh:=[Sh.agg (R.Pq (R.int i64) (R.Pq rcRG (R.Pq (R.int i64) (R.Pq (R.int u8) (R.Pq (R.int u8) (R.Pq R.bool rcCE)))))),Sh.one (R.sl (R.int u8))]
abbrev ZMm:Rs:=Rs.tup [Sh.agg (R.Pq (R.sl ZOp) (R.Pq (R.sl ZAY) (R.Pq (R.sl Zbb) (R.Pq (R.sl Zt) (R.Pq (R.Pq Zt (R.Pq (R.int i64) (R.Pq (R.sl (R.int u8)) (R.Pq (RY) (R.Pq (R.int i64) R.bool))))) (R.Pq rcCE (R.Pq Zba (R.Pq (R.Pq (R.int u16) (R.Pq (R.int u8) (R.int i64))) (R.Pq (R.int i64) (R.sl (R.Pq (R.int u8) (R.int u8)))))))))))),Sh.one (R.int i64)]
def ZYx:LS:={n:=119,Sl:=[(2,.fix (A.loc 0 0)),(4,.fix (A.loc 1 0)),(6,.fix (A.loc 2 0)),(8,.fix (A.loc 3 0)),(9,.fix (A.loc 4 0)),(32,.code (Sh.one (R.sl Zds))),(33,.code (Sh.one (R.int i64))),(34,.code (Sh.one (R.int i64)))],Bx:=[[.many (R.Pq (R.int i64) (R.Pq rcRG (R.Pq (R.int i64) (R.Pq (R.int u8) (R.Pq (R.int u8) (R.Pq R.bool rcCE))))))],[.many (R.Pq (R.sl ZOp) (R.Pq (R.sl ZAY) (R.Pq (R.sl Zbb) (R.Pq (R.sl Zt) (R.Pq (R.Pq Zt (R.Pq (R.int i64) (R.Pq (R.sl (R.int u8)) (R.Pq (RY) (R.Pq (R.int i64) R.bool))))) (R.Pq rcCE (R.Pq Zba (R.Pq (R.Pq (R.int u16) (R.Pq (R.int u8) (R.int i64))) (R.Pq (R.int i64) (R.sl (R.Pq (R.int u8) (R.int u8))))))))))))],[.many (R.Pq (R.Pq Zt (R.Pq (R.int i64) (R.Pq (R.sl (R.int u8)) (R.Pq (RY) (R.Pq (R.int i64) R.bool))))) (R.Pq rcCE (R.Pq Zba (R.Pq (R.Pq (R.int u16) (R.Pq (R.int u8) (R.int i64))) (R.Pq (R.int i64) (R.sl (R.Pq (R.int u8) (R.int u8))))))))],[.tip 0,.tip 1,.tip 2,.tip 3,.many (R.Pq (R.Pq Zt (R.Pq (R.int i64) (R.Pq (R.sl (R.int u8)) (R.Pq (RY) (R.Pq (R.int i64) R.bool))))) (R.Pq rcCE (R.Pq Zba (R.Pq (R.Pq (R.int u16) (R.Pq (R.int u8) (R.int i64))) (R.Pq (R.int i64) (R.sl (R.Pq (R.int u8) (R.int u8))))))))],[.many Zt]],Sg:=[⟨R.Pq (R.int i64) (R.Pq (R.int u16) (R.Pq (R.int u8) (R.Pq R.bool (R.Pq R.bool (R.Pq R.bool (R.Pq R.bool (R.Pq R.bool Zqp))))))),72,false⟩,⟨R.Pq (R.int i64) (R.Pq (RY) (R.Pq (R.int i64) (R.Pq (R.int i64) (R.Pq R.bool R.bool)))),125,false⟩,⟨R.Pq (R.int i64) (R.Pq (R.int i64) (R.Pq (R.sl (R.int u8)) (R.Pq Zqp (R.Pq R.bool (R.Pq R.bool (R.Pq R.bool (R.Pq R.bool (R.Pq (R.int u16) (R.int u8))))))))),108,false⟩,⟨R.Pq (R.int i64) (R.Pq Ze4 (R.Pq R.bool (R.Pq R.bool (R.Pq R.bool (R.Pq (R.int u8) rcF7))))),38,false⟩]}
def Zfp (a:List INPT×Int×Int×BRDT×RUNT×SYST×SYST×TC×List PINT×List ITMT×List EVTT×List TC×PUnit):RT (Option (Go1 (List INPT×Int×Int×BRDT×RUNT×SYST×SYST×TC×List PINT×List ITMT×List EVTT×List TC×PUnit))):=
 let x1:INPT:=R.get Zds a.1 a.2.2.1
 let x2:=Zso a.2.2.2.1 a.2.2.2.2.2.1 x1
 let x3:= !x2
 let x4:=ZFb a.2.2.2.1 a.2.2.2.2.2.1 x1
 let x5:=x4.2
 let x6:List PINT:=a.2.2.2.2.2.2.2.2.1++[x5.1]
 let x7:=Nat.ble (List.length x6) most
 let x8:= !x7
 let x9:Int:=bif x1.2.2.1 then 10 else ZS a.2.2.2.2.2.1.1
 let x10:=x9==8
 let x11:=x9==9
 let x12:=x9==10
 let x13:Int:=bif x10 then 2 else bif x11 then 3 else bif x12 then 4 else 1
 let x14:=x13 !=1
 let x15:= !x14
 let x16:=i64.wrap (iN (List.length a.2.2.2.2.2.2.2.2.2.1)-1)
 let x17:=decide (x16>=0)
 let x18:= !x17
 let x19:=Ze x16 (List.length a.2.2.2.2.2.2.2.2.2.1)
 let x20:=x18||x19
 let x21:= !x20
 let x22:ITMT:=R.get ZAY a.2.2.2.2.2.2.2.2.2.1 x16
 let x23:=x22.1
 let x24:=x23==x13
 let x25:= !x24
 let x26:=x18||(x25||x19)
 let x27:=x22.2
 let x28:=x27.2
 let x29:=x28.2
 let x30:=x29.2
 let x31:=x30.1==a.2.2.2.2.2.1.1.1.2.2.1
 let p9:=(!x31)::x25::x18::(!x26)::x21::x15::[]
 let x32:=orR p9 x19
 let x33:= !x32
 let x34:=x15||(x21||x26)
 let x35:= !x34
 let x36:=x15||x20
 let x37:= !x36
 let x38:=a.2.2.2.2.2.1.1.1.2.2.2.2.2.2.2.2.2.2.2.2
 let x39:=x17&&(x24&&(x31&&x30.2==x38))
 let x40:= !x39
 let x41:= !x19
 let x42:=x15||(x40||(x41||x19))
 let x43:= !x42
 let p2:=x43::x37::x35::x33::[]
 let x44:=x15||(x40||x19)
 let x45:= !x44
 let p8:=x14::x45::p2
 let p10:=x39::x15::x45::p2
 let x46:=x5.2
 let x47:=x46.2
 let x48:=x47.1
 let x49:=Zab a.2.2.2.2.2.1.1 x9 x48
 let x50:=x49.2
 let x51:=x50.2
 let x52:QT12:=(bif x10 then 0 else bif x11 then 0 else bif x12 then 0 else x49.1,bif x10 then 0 else bif x11 then a.2.2.2.2.2.1.1.1.2.1.2.2.2.2.2.2.2.2.2 else bif x12 then 0 else x50.1,bif x10 then 0 else bif x11 then 0 else bif x12 then 0 else x51.1,bif x10 then 0 else bif x11 then 0 else bif x12 then 0 else x51.2)
 let x53:List ITMT:=a.2.2.2.2.2.2.2.2.2.1++[(x13,x52,0,1,a.2.2.2.2.2.1.1.1.2.2.1,x38)]
 let x54:=Nat.ble (List.length x53) most
 let x55:=orR p10 x54
 let x56:= !x55
 let p3:=x56::x8::x3::(!Ze a.2.2.1 (List.length a.1))::[]
 let x57:=x9==1
 let x58:= !x57||x54
 let x59:= !x58
 let p14:=x57::x59::p8
 let p18:=x41::p14
 let x60:=x9==7
 let x61:= !x60
 let x62:=setI a.2.2.2.2.2.2.2.2.2.1 x16 (x23,x52,x28)
 let x63:=Ze x16 (List.length x62)
 let x64:= !x63||x63
 let x65:=x61||x64
 let x66:= !x65
 let p21:=x66::p18
 let x67:=x61||x63
 let x68:= !x67
 let p23:=x68::p21
 let x69:=x60||x64
 let p26:=x60::(!x69)::p23
 let x70:=orR p26 x63
 let x71:= !x70
 let p6:=x71::p3
 let x72:=orR p23 x69
 let x73:= !x72
 let p7:=x73::p6
 let x74:=orR p21 x67
 let x75:= !x74
 let p12:=x75::p7
 let x76:=orR p18 x65
 let x77:= !x76
 let p13:=x77::p12
 let x78:=orR p14 x19
 let x79:= !x78
 let p17:=x79::p13
 let x80:=orR p8 x58
 let x81:= !x80
 let p19:=x81::p17
 let x82:=orR p2 x44
 let x83:= !x82
 let p22:=x83::p19
 let x84:=x33||(x35||(x37||x42))
 let x85:= !x84
 let p25:=x85::p22
 let x86:=x33||(x35||x36)
 let x87:= !x86
 let p27:=x87::p25
 let x88:=x33||x34
 let x89:= !x88
 let p29:=x89::p27
 let p30:=x33::p29
 let x90:Nat:=List.length a.2.2.2.2.2.2.2.2.2.2.2.1
 let x91:=iN x90
 let x92:=decide (x91>0)
 let x93:=i64.wrap (x91-1)
 let x94:= !x92||Ze x93 x90
 let x95:= !x94
 let x96:=x46.1
 let x97:=x96.2.2.1
 let x98:= !x97
 let x99:=Nat.ble (List.length ([]++a.2.2.2.2.2.1.1.2.2.1)) most
 let x100:= !x99
 let x101:LINT:=(false,false,false,false,false,false,false,false,false)
 let x102:LINT×Bool×Bool×Bool×Bool×Int×Int:=(x101,false,false,false,false,0,0)
 let x103:List EVTT:=a.2.2.2.2.2.2.2.2.2.2.1++[Zd6 (6,a.2.2.2.2.2.1.1.2.1,[]++a.2.2.2.2.2.1.1.2.2.1,x102) a.2.2.2.2.2.1.1.1 x96]
 let x104:=Nat.ble (List.length x103) most
 let x105:TC:=R.get Zt a.2.2.2.2.2.2.2.2.2.2.2.1 x93
 let x151:List TC:=[(R.sel Zt x92 x105 a.2.2.2.2.2.2.2.1)]
 let x152:List TC:=a.2.2.2.2.2.2.2.2.2.2.2.1++x151
 let x153:= !x104||Nat.ble (List.length x152) most
 let p1:=(!x153)::x100::(!ZcG a.2.2.2.2.2.1.1)::x98::[]
 let x154:=orR p1 x104
 let x155:= !x154
 let x156:=x98||(!ZcG a.2.2.2.2.2.1.1||(x100||x153))
 let x157:= !x156
 let x158:=x98||(!ZcG a.2.2.2.2.2.1.1||x99)
 let x159:= !x158
 let p4:=x159::x157::x155::x95::[]
 let x160:List EVTT:=(bif ZcG a.2.2.2.2.2.1.1 then x103 else a.2.2.2.2.2.2.2.2.2.2.1)++[Zd6 (4,0,[],x102) a.2.2.2.2.2.1.1.1 x96]
 let x161:=Nat.ble (List.length x160) most
 let x162:=x4.1
 let x163:List TC:=(bif ZcG a.2.2.2.2.2.1.1 then x152 else a.2.2.2.2.2.2.2.2.2.2.2.1)++[x162.1.1]
 let x164:= !x161||Nat.ble (List.length x163) most
 let x165:=x98||(!x164||x161)
 let x166:= !x165
 let p5:=x166::p4
 let x167:=x98||x164
 let x168:= !x167
 let p11:=x97::x168::p5
 let x169:=ZgW a.2.2.2.2.2.1.1 x96 x48
 let x170:= !x169
 let p15:=x170::p11
 let x171:=Zih a.2.2.2.2.2.1.1 x96 x48
 let x172:=x171.2
 let x173:= !x172
 let x174:=Zsq a.2.2.2.2.2.1.1 (ZS a.2.2.2.2.2.1.1) x48
 let x175:= !x174
 let x176:List EVTT:=a.2.2.2.2.2.2.2.2.2.2.1++[Zd6 (Zf6 a.2.2.2.2.2.1.1.2.1,a.2.2.2.2.2.1.1.2.1,ZFf a.2.2.2.2.2.1.1 (ZS a.2.2.2.2.2.1.1) x48,x102) (Zj a.2.2.2.2.2.1.1.1 x96) x96]
 let x177:=Nat.ble (List.length x176) most
 let x178:List TC:=a.2.2.2.2.2.2.2.2.2.2.2.1++[x171.1]
 let x179:= !x177||Nat.ble (List.length x178) most
 let x180:=x173||(x175||(!x179||x177))
 let x181:= !x180
 let p16:=x181::p15
 let x182:=x173||(x175||x179)
 let x183:= !x182
 let p20:=x183::p16
 let x184:=x173||x174
 let x185:= !x184
 let p24:=x185::p20
 let x186:=x47.2
 let x187:=x186.2
 let x188:= !x187
 let x189:List EVTT:=bif x172 then x176 else a.2.2.2.2.2.2.2.2.2.2.1
 let x190:List EVTT:=x189++[(5,0,[],x101,false,false,false,false,x186.1)]
 let x191:=Nat.ble (List.length x190) most
 let x192:List TC:=bif x172 then x178 else a.2.2.2.2.2.2.2.2.2.2.2.1
 let x193:List TC:=x192++x151
 let x194:= !x191||Nat.ble (List.length x193) most
 let x195:=x188||(!x194||x191)
 let p28:=x188::(!x195)::p24
 let x196:=orR p28 x194
 let x197:= !x196
 let p31:=x197::p30
 let x198:=orR p24 x195
 let x199:= !x198
 let p32:=x199::p31
 let x200:=orR p20 x184
 let x201:= !x200
 let p33:=x201::p32
 let x202:=orR p16 x182
 let x203:= !x202
 let p34:=x203::p33
 let x204:=orR p15 x180
 let x205:= !x204
 let p35:=x205::p34
 let x206:=orR p11 x169
 let x207:= !x206
 let p36:=x207::p35
 let x208:=orR p5 x167
 let x209:= !x208
 let p37:=x209::p36
 let x210:=orR p4 x165
 let x211:= !x210
 let p38:=x211::p37
 let x212:=x95||(x155||(x157||x158))
 let x213:= !x212
 let p39:=x213::p38
 let x214:=x95||(x155||x156)
 let x215:= !x214
 let p40:=x215::p39
 let x216:=x95||x154
 let p41:=(!x216)::p40
 let x217:ITMT:=R.get ZAY x62 x16
 let x218:=x217.1
 let x219:=x217.2
 let x220:=x219.1
 let x221:=x219.2
 let x222:=x221.1
 let x223:=x221.2
 .br (decide (a.2.2.1<a.2.1)) (.br (orR p41 x94) (.br (orR p40 x216) (.br (orR p39 x214) (.br (orR p38 x212) (.br (orR p37 x210) (.br (orR p36 x208) (.br (orR p35 x206) (.br (orR p34 x204) (.br (orR p33 x202) (.br (orR p32 x200) (.br (orR p31 x198) (.br (orR p30 x196) (.br (orR p29 x32) (.br (orR p27 x88) (.br (orR p25 x86) (.br (orR p22 x84) (.br (orR p19 x82) (.br (orR p17 x80) (.br (orR p13 x78) (.br (orR p12 x76) (.br (orR p7 x74) (.br (orR p6 x72) (.br (orR p3 x70) (.br (!Ze a.2.2.1 (List.length a.1)||(x3||(x8||x55))) (.br (!Ze a.2.2.1 (List.length a.1)||(x3||x7)) (.br (!Ze a.2.2.1 (List.length a.1)||x2) (.br (Ze a.2.2.1 (List.length a.1)) (.Lf (some (Go1.cont (a.1,a.2.1,i64.wrap (a.2.2.1+1),a.2.2.2.1,a.2.2.2.2.1,x162,a.2.2.2.2.2.2.1,a.2.2.2.2.2.2.2.1,x6,bif x14 then bif x39 then setI a.2.2.2.2.2.2.2.2.2.1 x16 (x23,x27.1,x28.1,i64.wrap (x29.1+1),x30) else x53 else bif x57 then x53 else bif x60 then setI x62 x16 (x218,x220,i64.wrap (x222+1),x223) else setI x62 x16 (x218,x220,x222,i64.wrap (x223.1+1),x223.2),bif x97 then x160 else bif x187 then x190 else x189,bif x97 then x163 else bif x187 then x193 else x192,PUnit.unit)))) (.Lf none)) (.Lf none)) (.Lf none)) (.Lf none)) (.Lf none)) (.Lf none)) (.Lf none)) (.Lf none)) (.Lf none)) (.Lf none)) (.Lf none)) (.Lf none)) (.Lf none)) (.Lf none)) (.Lf none)) (.Lf none)) (.Lf none)) (.Lf none)) (.Lf none)) (.Lf none)) (.Lf none)) (.Lf none)) (.Lf none)) (.Lf none)) (.Lf none)) (.Lf none)) (.Lf none)) (.Lf (some (Go1.brk (a.1,a.2.1,a.2.2.1,a.2.2.2.1,a.2.2.2.2.1,a.2.2.2.2.2.1,a.2.2.2.2.2.2.1,a.2.2.2.2.2.2.2.1,a.2.2.2.2.2.2.2.2.1,a.2.2.2.2.2.2.2.2.2.1,a.2.2.2.2.2.2.2.2.2.2.1,a.2.2.2.2.2.2.2.2.2.2.2.1,PUnit.unit))))
def ZMo:Ora:=Za2 false ZYx Zfp (λa=>1000000000000)
theorem ZMn:ZaH (envX prog [(30,Zyj),(79,Zfz),(119,ZYy),(120,Zsl),(121,ZAl),(122,Zct),(123,Zim),(124,ZbP)] [] 524287 8) (.block 0 (.loop (Z7 Tryz.f63.body 0))) ZMo:=
 loopP ⟨Zuh,Zeg,ZMp,Zqy,ZwZ,Zdj,ZhM,ZcD,Tv⟩
def ZMl (b:BRDT) (l:List Int):RT (Option (RUNT×Int)):=
 let x1:SYST:=(((0,(0,0,0,0,0,0,0,(false,false,false,false,false,false,false),0,0),false,false,false,0,false,false,false,false,false,false,false),0,[],(0,0,0,0),0,false),[],(0,false,false,false,false,0,0,false,false,false,false,false,0,0,0,0,0,0,0,false),(0,0,0),0,[])
 let x2:RUNT:=([],[],[],[],x1)
 let x3:List INPT×Int×Int×BRDT×RUNT×SYST×SYST×TC×List PINT×List ITMT×List EVTT×List TC×PUnit:=(Zbg l,iN (List.length (Zbg l)),0,b,x2,(wNew b).1,x1,(wNew b).1.1.1,[],[],[],[],())
 let x4:=runF false Zfp (λa=>1000000000000) x3
 let x5:SYST×SYST×TC×List PINT×List ITMT×List EVTT×List TC×PUnit:=(getO (false,x3) x4).2.2.2.2.2.2
 let x6:=x5.1
 let x7:=x6.1
 let x8:=ZcG x7
 let x9:= !x8
 let x10:=x5.2.2
 let x11:=x10.2
 let x12:=x11.2
 let x13:=x12.2
 let x14:=x13.2.1
 let x15:Nat:=List.length x14
 let x16:=iN x15
 let x17:=decide (x16>0)
 let x18:=i64.wrap (x16-1)
 let x19:=x7.2
 let x20:List Int:=[]++x19.2.1
 let x21:=Nat.ble (List.length x20) most
 let x22:=x13.1
 let x23:List EVTT:=x22++[(7,x19.1,x20,(false,false,false,false,false,false,false,false,false),false,false,false,false,0,0)]
 let x24:TC:=R.get Zt x14 x18
 let x78:List TC:=x14++[(R.sel Zt x17 x24 (getO (false,x3) x4).2.2.2.2.2.2.2.2.1)]
 let x79:=x11.1
 let x80:=x12.1
 .br (ZTE b) (.br ((wNew b).2 !=0) (.Lf (some ((x2,(wNew b).2)))) (.br (Zlj l) (.br (okB x4) (.br (x9||(!x17||Ze x18 x15)) (.br (x9||(!x21||Nat.ble (List.length x23) most)) (.br (x9||x21) (.br (x9||Nat.ble (List.length x78) most) (.br (x8) (.Lf (some (((x79,x80,x23,x78,x6),0)))) (.Lf (some (((x79,x80,x22,x14,x6),0))))) (.Lf none)) (.Lf none)) (.Lf none)) (.Lf none)) (.Lf none)) (.Lf none))) (.Lf none)
def wRun (b:BRDT) (l:List Int):RUNT×Int:=getO ZMm.Df (ZMl b l).val
def ZTD (b:BRDT) (l:List Int):Bool:=okB (ZMl b l).val
def Z1r:En:=Zg ZWA ZMm (λa=>some (ZTD a.1 a.2)) (λa=>wRun a.1 a.2)
theorem ZYv:Za prog 63 Z1r:=
 pureP 524287 [(30,Zyj),(79,Zfz),(119,ZYy),(120,Zsl),(121,ZAl),(122,Zct),(123,Zim),(124,ZbP)] [(0,ZMo)] ZWA ZMm ⟨Zuh,Zeg,ZMp,Zqy,ZwZ,Zdj,ZhM,ZcD,Tv⟩ Tryz.func63 Tryz.call63 ⟨ZMn,Tv⟩ (t:=λa=>ZMl a.1 a.2)
end
end Go.Proofs.YtghoimllhpjkjaaGreat
