import Derived.Test.YtpnjbfjomebppaaGreatPicI
open Go.Proofs.Tryz (prog)
open Go.IntKind (u8 u16 i64)
open Go Go.S3 Go.Proofs
set_option linter.unusedVariables false
set_option linter.unusedSimpArgs false
set_option maxRecDepth 100000
namespace Go.Proofs.YtpnjbfjomebppaaGreat
noncomputable section
theorem Zlb {p:PICT} (h:okHL ZsT p):inR .u8 p.2.2.2.2.2.2.2.2.2.2.2.2.2.2.1:=h.2.2.2.2.2.2.2.2.2.2.2.2.2.2.1
def Znk:En:=Zg ZsT ZsU (λ_=>none) (λa=>vInt a)
theorem Zw4:Zb prog 199 Znk:=ZQe.tot (λa h=>by have:=(ZS1 a (Zlb h)).1;simp[this]) (λa h=>(ZS1 a (Zlb h)).2.2)
def ZgJ:En:=Zg Znf Zng (λ_=>none) (λa=>ZaJ a.1 a.2)
theorem Znh:Zb prog 198 ZgJ:=ZGu.tot (λa h=>by simp) (λa h=>ZPT _ _)
def ZgI:En:=Zg Znc Zi5 (λ_=>none) (λa=>Zba a.1 a.2.1 a.2.2)
theorem Znd:Zb prog 207 ZgI:=ZGs.tot (λa h=>by have h1:=(ZCH a.1 a.2.1 a.2.2 (Zlb h.1)).2;have h2:=Zvk a.1 a.2.1 a.2.2;rw[h2] at h1;simp[h1]) (λa h=>(ZCH a.1 a.2.1 a.2.2 (Zlb h.1)).1)
def Zi6:En:=Zg ZsO ZlO (λ_=>none) (λa=>ZiE a.1 a.2)
theorem ZqI:Zb prog 205 Zi6:=ZK1.tot (λa h=>by have h1:=(ZJZ a.1 a.2 (Zlb h.1)).2;have h2:=ZCQ a.1 a.2;rw[h2] at h1;simp[h1]) (λa h=>(ZJZ a.1 a.2 (Zlb h.1)).1)
def Znl:En:=Zg Zz9 ZsV (λ_=>none) (λa=>vAck a)
theorem Zw7:Zb prog 203 Znl:=ZQh.tot (λa h=>by have h1:=(ZTg a (Zlb h)).2;have h2:=ZIP a;rw[h2] at h1;simp[h1]) (λa h=>(ZTg a (Zlb h)).1)
def ZfX:En:=Zg ZCs ZCt (λ_=>none) (λa=>Zn a)
theorem ZjH:Zb prog 141 ZfX:=ZFC.tot (λa h=>by simp) (λa h=>ZOw _)
def ZjI:En:=Zg ZuU ZuV (λ_=>none) (λa=>ZhM a.1 a.2)
theorem Zrj:Zb prog 206 ZjI:=ZOA.tot (λa h=>by simp) (λa h=>(ZRL _ _).2)
def Zg2:En:=Zg Zps Zpt (λ_=>none) (λa=>ZdD a.1 a.2.1 a.2.2)
theorem Zpu:Zb prog 208 Zg2:=ZIe.tot (λa h=>by simp) (λa h=>ZOv _ _ _)
def Zpv:En:=Zg ZCq ZCr (λ_=>none) (λa=>ZaI a)
theorem ZyH:Zb prog 142 Zpv:=ZRO.tot (λa h=>by simp) (λa h=>ZV0 _)
abbrev ZOK:En:=Zpy (R.Pq (R.int u8) (R.int u8)) 194
theorem ZOJ:Zb prog 121 ZOK:=
 ZkX (P:=prog) (n:=15) (k:=8) (l:=[]) (ol:=[]) trivial Tryz.func121 rfl (by kernel_rfl) Tryz.call121 trivial
  (λm=>⟨{chk:=none,v:=.w (.one .nilsl),m:=m,bd:=[],sd:=[]},by kernel_rfl,rfl,rfl⟩)
  (λm l h=>⟨{chk:=none,v:=.w (.one (.tip (len m.Sg) 0)),m:={m with Sg:=m.Sg++[Zgb (R.Pq (R.int u8) (R.int u8)) 194 l]},bd:=[],sd:=[]},by
   have e:(Zr (envX prog [] [] 15 8) Tryz.f121 [.w (.one (.lst (R.Pq (R.int u8) (R.int u8)) false false true l))] m).val=cond (Nat.ble ([]++l).length most) (some {chk:=none,v:=.w (.one (.tip (len m.Sg) 0)),m:={m with Sg:=m.Sg++[Zgb (R.Pq (R.int u8) (R.int u8)) 194 ([]++l)]},bd:=[],sd:=[]}) none:=by kernel_rfl
   rw[e,List.nil_append,h];rfl,rfl,rfl⟩)
def ZjM:En:=Zg [.one (.sl (R.Pq (R.int u16) (R.int u8)))] (.one (.one (.sl (R.Pq (R.int u16) (R.int u8))))) (λl=>some (Nat.ble l.length most)) (λl=>l)
theorem ZkY:Zb prog 98 ZjM:=
 ZQ5 (P:=prog) (n:=15) (k:=8) (l:=[]) (ol:=[]) trivial Tryz.func98 rfl (by kernel_rfl) Tryz.call98 trivial (r:=R.Pq (R.int u16) (R.int u8)) (rs:=.one (.one (.sl (R.Pq (R.int u16) (R.int u8))))) (pre:=λl=>Nat.ble l.length most) (F:=λl=>l) (by kernel_rfl)
  (λl h=>by
   have e:(evOf (envX prog [] [] 15 8) Tryz.f98 (.one (.one (.sl (R.Pq (R.int u16) (R.int u8))))) [.w (.one (.lst (R.Pq (R.int u16) (R.int u8)) false false true l))]).val=cond (Nat.ble ([]++l).length most) (some ([]++l)) none:=by kernel_rfl
   rw[e,List.nil_append,h];rfl)
abbrev ZyP:List Sh:=[Sh.agg (R.Pq (R.int i64) (R.Pq rcRG (R.Pq (R.int i64) (R.Pq (R.int u8) (R.Pq (R.int u8) (R.Pq R.bool rcCE))))))]
abbrev ZpB:Rs:=Rs.one (Sh.one (R.int i64))
def ZjR (b:BRDT):RT (Option (Int)):=
 .br (b.1 !=1&&b.1 !=2) (.Lf (some (1))) (.br (smG b.2.1) (.br (ZbS b.2.1 !=0) (.Lf (some (ZbS b.2.1))) (.br (decide (b.2.2.1<0)||(decide (b.2.2.1>100)||smC b.2.2.2.2.2.2)) (.br (decide (b.2.2.1<0)||(decide (b.2.2.1>100)|| !vldB b.2.2.2.2.2.2)) (.Lf (some (1))) (.Lf (some (0)))) (.Lf none))) (.Lf none))
def Ze7 (b:BRDT):Int:=getO ZpB.Df (ZjR b).val
def Zf3 (b:BRDT):Bool:=okB (ZjR b).val
def Zmg:En:=Zg ZyP ZpB (λa=>some (Zf3 a)) (λa=>Ze7 a)
theorem Zrn:Zb prog 50 Zmg:=
 pureP 15 [(102,Zxf),(103,ZE8)] [] ZyP ZpB ⟨ZAi,ZHT,Tv⟩ Tryz.func50 Tryz.call50 trivial (t:=λa=>ZjR a)
abbrev ZOW:List Sh:=[Sh.agg (R.Pq (R.int i64) (R.Pq rcRG (R.Pq (R.int i64) (R.Pq (R.int u8) (R.Pq (R.int u8) (R.Pq R.bool rcCE))))))]
abbrev ZCD:Rs:=Rs.tup [Sh.agg (R.Pq (R.Pq ZY (R.Pq (R.int i64) (R.Pq (R.sl (R.int u8)) (R.Pq (RY) (R.Pq (R.int i64) R.bool))))) (R.Pq rcCE (R.Pq ZaE (R.Pq (R.Pq (R.int u16) (R.Pq (R.int u8) (R.int i64))) (R.Pq (R.int i64) (R.sl (R.Pq (R.int u8) (R.int u8)))))))),Sh.one (R.int i64)]
def Zrq (b:BRDT):RT (Option (SYST×Int)):=
 let x1:TR:=(0,0,0,0,0,0,0,(false,false,false,false,false,false,false),0,0)
 .br (Zf3 b) (.br (Ze7 b !=0) (.Lf (some (((((0,x1,false,false,false,0,false,false,false,false,false,false,false),0,[],(0,0,0,0),0,false),[],(0,false,false,false,false,0,0,false,false,false,false,false,0,0,0,0,0,0,0,false),(0,0,0),0,[]),Ze7 b)))) (.br (Nat.ble (List.length b.2.2.2.2.2.2) most) (.Lf (some ((((((newX b.1).1.1,x1,false,false,false,(newX b.1).1.2.2.2.2.2.1,false,false,false,false,false,false,false),0,[],(1,0,0,4),1,false),b.2.2.2.2.2.2,(0,false,false,false,false,0,0,false,false,false,false,false,0,0,0,0,7,0,0,false),(0,0,0),0,[]),0)))) (.Lf none))) (.Lf none)
def ZCE (b:BRDT):SYST×Int:=getO ZCD.Df (Zrq b).val
def ZFO (b:BRDT):Bool:=okB (Zrq b).val
def ZOX:En:=Zg ZOW ZCD (λa=>some (ZFO a)) (λa=>ZCE a)
theorem ZFN:Zb prog 48 ZOX:=
 pureP 31 [(50,Zmg),(97,ZEt),(98,ZjM),(99,Zw2)] [] ZOW ZCD ⟨Zrn,ZEs,ZkY,ZsS,Tv⟩ Tryz.func48 Tryz.call48 trivial (t:=λa=>Zrq a)
def Zak:En:=.tree (Zr (envX prog [] [] 23 8) Tryz.f201)
theorem ZcG:Zb prog 201 Zak:=ZL (P:=prog) (n:=23) (k:=8) (l:=[]) (ol:=[]) trivial Tryz.func201 rfl (by kernel_rfl) Tryz.call201 trivial
def ZbB:En:=.tree (Zr (envX prog [(201,Zak),(269,ZgK)] [] 4195343 8) Tryz.f200)
theorem ZeQ:Zb prog 200 ZbB:=ZL (P:=prog) (n:=4195343) (k:=8) (l:=[(201,Zak),(269,ZgK)]) (ol:=[]) ⟨ZcG,Zns,Tv⟩ Tryz.func200 rfl (by kernel_rfl) Tryz.call200 trivial
def Zbp:En:=.tree (Zr (envX prog [(141,ZfX),(198,ZgJ),(199,Znk),(200,ZbB)] [] 63 8) Tryz.f135)
theorem ZeK:Zb prog 135 Zbp:=ZL (P:=prog) (n:=63) (k:=8) (l:=[(141,ZfX),(198,ZgJ),(199,Znk),(200,ZbB)]) (ol:=[]) ⟨ZjH,Znh,Zw4,ZeQ,Tv⟩ Tryz.func135 rfl (by kernel_rfl) Tryz.call135 trivial
def Z9:En:=.tree (Zr (envX prog [] [] 127 8) Tryz.f204)
theorem Zce:Zb prog 204 Z9:=ZL (P:=prog) (n:=127) (k:=8) (l:=[]) (ol:=[]) trivial Tryz.func204 rfl (by kernel_rfl) Tryz.call204 trivial
def ZbA:En:=.tree (Zr (envX prog [(201,Zak),(202,Zje),(203,Znl),(204,Z9),(205,Zi6),(206,ZjI)] [] 68720003071 8) Tryz.f137)
theorem ZeP:Zb prog 137 ZbA:=ZL (P:=prog) (n:=68720003071) (k:=8) (l:=[(201,Zak),(202,Zje),(203,Znl),(204,Z9),(205,Zi6),(206,ZjI)]) (ol:=[]) ⟨ZcG,ZqT,Zw7,Zce,ZqI,Zrj,Tv⟩ Tryz.func137 rfl (by kernel_rfl) Tryz.call137 trivial
def Zbo:En:=.tree (Zr (envX prog [(143,ZcU),(204,Z9),(207,ZgI),(208,Zg2)] [] 255 8) Tryz.f140)
theorem ZeJ:Zb prog 140 Zbo:=ZL (P:=prog) (n:=255) (k:=8) (l:=[(143,ZcU),(204,Z9),(207,ZgI),(208,Zg2)]) (ol:=[]) ⟨ZfK,Zce,Znd,Zpu,Tv⟩ Tryz.func140 rfl (by kernel_rfl) Tryz.call140 trivial
def ZcH:En:=.tree (Zr (envX prog [(83,ZcV),(135,Zbp),(136,Zig),(137,ZbA),(138,Zji),(139,Zcy),(140,Zbo),(141,ZfX),(142,Zpv),(143,ZcU)] [] 255 8) Tryz.f76)
theorem ZeL:Zb prog 76 ZcH:=ZL (P:=prog) (n:=255) (k:=8) (l:=[(83,ZcV),(135,Zbp),(136,Zig),(137,ZbA),(138,Zji),(139,Zcy),(140,Zbo),(141,ZfX),(142,Zpv),(143,ZcU)]) (ol:=[]) ⟨Zd2,ZeK,Zjc,ZeP,ZqY,Zem,ZeJ,ZjH,ZyH,ZfK,Tv⟩ Tryz.func76 rfl (by kernel_rfl) Tryz.call76 trivial
abbrev ZpD:List Sh:=[Sh.agg (R.Pq (R.int i64) (R.Pq rcRG (R.Pq (R.int i64) (R.Pq (R.int u8) (R.Pq (R.int u8) (R.Pq R.bool rcCE)))))),Sh.agg (R.Pq (R.Pq ZY (R.Pq (R.int i64) (R.Pq (R.sl (R.int u8)) (R.Pq (RY) (R.Pq (R.int i64) R.bool))))) (R.Pq rcCE (R.Pq ZaE (R.Pq (R.Pq (R.int u16) (R.Pq (R.int u8) (R.int i64))) (R.Pq (R.int i64) (R.sl (R.Pq (R.int u8) (R.int u8)))))))),Sh.agg Zbt]
abbrev ZjT:Rs:=Rs.tup [Sh.agg (R.Pq (R.Pq ZY (R.Pq (R.int i64) (R.Pq (R.sl (R.int u8)) (R.Pq (RY) (R.Pq (R.int i64) R.bool))))) (R.Pq rcCE (R.Pq ZaE (R.Pq (R.Pq (R.int u16) (R.Pq (R.int u8) (R.int i64))) (R.Pq (R.int i64) (R.sl (R.Pq (R.int u8) (R.int u8)))))))),Sh.agg Zia]
def ZjS (b:BRDT) (s:SYST) (i:INPT):RT (Option (SYST×PINT)):=
 let x1:=bif s.1.2.2.2.1.1==1 then s.1.2.2.2.1.1==1 else bif s.1.2.2.2.1.1==2 then s.1.2.2.2.1.1==2 else bif s.1.2.2.2.1.1==3 then s.1.2.2.2.1.1==3 else bif s.1.2.2.2.1.1==4 then s.1.2.2.2.1.1==4 else s.1.2.2.2.1.1==5
 let x2:= !x1
 let x3:= !i.1||(x2||smG b.2.1)
 let x4:= !x3
 let x5:= !i.2.2.1&&Zbv s.1==3&&ZaU s.1.2.2.2.1.1
 let x6:= !x5||(x2||smG b.2.1&&smC s.2.1)
 let x7:= !x6
 let x8:CORT:=(s.1.1,s.1.2.1,bif !i.2.2.1 then s.1.2.2.1 else s.1.2.2.1,s.1.2.2.2)
 let x9:=Zh8 x8
 let x10:= !x9
 let x11:= !i.2.2.1&&Zbv s.1==3&&Zb2 s.1.2.2.2.1.1
 let x12:= !x11
 let x13:= !s.1.2.2.2.1.1 !=7||smG b.2.1&&smC s.2.1
 let x14:List (Int×Int):=s.2.2.2.2.2++[(u8.wrap s.1.2.2.2.1.2.1,s.1.2.2.2.1.2.2.1)]
 let x15:=x12||(!x13||(s.1.2.2.2.1.1 !=7||Nat.ble (List.length x14) most))
 let x16:= !x15
 let p1:=x16::x10::x7::x4::[]
 let x17:=x12||x13
 let x18:Int:=bif s.1.2.2.2.2.1==7 then i64.wrap (s.2.2.2.2.1+1) else 0
 let x19:=ZaJ s.2.2.1 i.2.2.2.2.2.2.2.2.1
 let x20:=s.1.2.2.2.1.1==8||s.1.2.2.2.1.1==9
 let x21:Int:=bif b.2.2.2.2.2.1 then s.2.2.1.1 else x19.1
 let x22:=x19.2
 let x23:=bif b.2.2.2.2.2.1 then s.2.2.1.2.1 else x22.1
 let x24:=x22.2
 let x25:=bif b.2.2.2.2.2.1 then s.2.2.1.2.2.1 else x24.1
 let x26:=x24.2
 let x27:=bif b.2.2.2.2.2.1 then s.2.2.1.2.2.2.1 else x26.1
 let x28:=x26.2
 let x29:=bif b.2.2.2.2.2.1 then s.2.2.1.2.2.2.2.1 else x28.1
 let x30:=x28.2
 let x31:Int:=bif b.2.2.2.2.2.1 then s.2.2.1.2.2.2.2.2.1 else x30.1
 let x32:=x30.2
 let x33:Int:=bif b.2.2.2.2.2.1 then s.2.2.1.2.2.2.2.2.2.1 else x32.1
 let x34:=x32.2
 let x35:=bif b.2.2.2.2.2.1 then s.2.2.1.2.2.2.2.2.2.2.1 else x34.1
 let x36:=x34.2
 let x37:=bif b.2.2.2.2.2.1 then s.2.2.1.2.2.2.2.2.2.2.2.1 else x36.1
 let x38:=x36.2
 let x39:=bif b.2.2.2.2.2.1 then s.2.2.1.2.2.2.2.2.2.2.2.2.1 else x38.1
 let x40:=s.2.2.1.2.2.2.2.2.2.2.2.2.2
 let x41:=x38.2
 let x42:=bif b.2.2.2.2.2.1 then x40.1 else x41.1
 let x43:=x40.2
 let x44:=x41.2
 let x45:=bif b.2.2.2.2.2.1 then x43.1 else x44.1
 let x46:=x43.2
 let x47:=x44.2
 let x48:Int:=bif b.2.2.2.2.2.1 then x46.1 else x47.1
 let x49:=x46.2
 let x50:=x47.2
 let x51:Int:=bif b.2.2.2.2.2.1 then x49.1 else x50.1
 let x52:=x49.2
 let x53:=x50.2
 let x54:Int:=bif b.2.2.2.2.2.1 then x52.1 else x53.1
 let x55:=x52.2
 let x56:=x53.2
 let x57:Int:=bif b.2.2.2.2.2.1 then x55.1 else x56.1
 let x58:=x55.2
 let x59:=x56.2
 let x60:Int:=bif b.2.2.2.2.2.1 then x58.1 else x59.1
 let x61:=x58.2
 let x62:=x59.2
 let x63:Int:=bif b.2.2.2.2.2.1 then x61.1 else x62.1
 let x64:=x61.2
 let x65:=x62.2
 let x66:Int:=bif b.2.2.2.2.2.1 then x64.1 else x65.1
 let x67:=bif b.2.2.2.2.2.1 then x64.2 else x65.2
 let x68:PICT:=(x21,x23,x25,x27,x29,x31,x33,x35,x37,x39,x42,x45,x48,x51,x54,x57,x60,x63,x66,x67)
 let x69:=vAck x68
 let x70:=u8.wrap (u8.wrap s.1.2.2.2.1.2.1-b.2.2.2.1)
 let x71:= !b.2.2.2.2.2.1&&decide (x70<2)
 let x72:=x70==1
 let x73:=bif !b.2.2.2.2.2.1 then x72 else x72
 let x74:=ZiE x68 x73
 let x75:=u8.wrap (u8.wrap s.1.2.2.2.1.2.1-b.2.2.2.2.1)
 let x76:=decide (x75<4)
 let x77:=i64.wrap x75
 let x78:=clkX x8 (i.1&&bif x1 then decide (x18>=Zgj b.2.1 s.1.2.2.2.1.2.1) else bif s.1.2.2.2.1.1==6||s.1.2.2.2.1.1==7 then decide (x18>=if (if 100<b.2.2.1 then 100 else b.2.2.1)>0 then if 100<b.2.2.1 then 100 else b.2.2.1 else 0) else decide (x18>=0),i.2.1||Zn s.2.2.2.1,i.2.2.1,i.2.2.2.1,i.2.2.2.2.1,i.2.2.2.2.2.1,i.2.2.2.2.2.2.1,i.2.2.2.2.2.2.2.1,bif b.2.2.2.2.2.1 then andI u8 i.2.2.2.2.2.2.2.2.1 1==1 else vInt x19) (bif x5 then bif x1 then Zgw b.2.1 s.2.1 s.1.2.2.2.1.2.1 else bif x20 then bif !b.2.2.2.2.2.1 then x69.2 else i.2.2.2.2.2.2.2.2.2 else bif x71 then x74.2 else bif x76 then ZhM s.2.2.2.1 x77 else i.2.2.2.2.2.2.2.2.2 else 0)
 let x79:=x78.2
 let x80:=ZdD s.2.2.2.1 x77 s.1.2.2.2.1.2.2.1
 let x81:Int:=bif x11 then bif s.1.2.2.2.1.1 !=7 then s.2.2.2.1.1 else bif x71 then s.2.2.2.1.1 else bif x76 then x80.1 else s.2.2.2.1.1 else s.2.2.2.1.1
 let x82:=x80.2
 let x83:Int:=bif x11 then bif s.1.2.2.2.1.1 !=7 then s.2.2.2.1.2.1 else bif x71 then s.2.2.2.1.2.1 else bif x76 then x82.1 else s.2.2.2.1.2.1 else s.2.2.2.1.2.1
 let x84:Int:=bif x11 then bif s.1.2.2.2.1.1 !=7 then s.2.2.2.1.2.2 else bif x71 then s.2.2.2.1.2.2 else bif x76 then x82.2 else s.2.2.2.1.2.2 else s.2.2.2.1.2.2
 let x85:QT4:=(x81,x83,x84)
 let x86:=x79.2.2.2.2.2.2.2.2.2.2.2.2.2.2.2.1&&Zn x85
 let p2:=(!x86)::(!x17)::p1
 let x87:List (Int×Int):=bif x11 then bif s.1.2.2.2.1.1 !=7 then ZaK b.2.1 s.2.1 s.1.2.2.2.1.2.1 s.1.2.2.2.1.2.2.1 else s.2.1 else s.2.1
 let x88:=ZaI x85
 let x89:=x88.2.1
 let x90:=x69.1
 let x91:=x74.1
 let x92:Int:=bif x5 then bif x1 then x21 else bif x20 then bif !b.2.2.2.2.2.1 then x90.1 else x21 else bif x71 then x91.1 else x21 else x21
 let x93:=x90.2
 let x94:=x91.2
 let x95:=bif x5 then bif x1 then x23 else bif x20 then bif !b.2.2.2.2.2.1 then x93.1 else x23 else bif x71 then x94.1 else x23 else x23
 let x96:=x93.2
 let x97:=x94.2
 let x98:=bif x5 then bif x1 then x25 else bif x20 then bif !b.2.2.2.2.2.1 then x96.1 else x25 else bif x71 then x97.1 else x25 else x25
 let x99:=x96.2
 let x100:=x97.2
 let x101:=bif x5 then bif x1 then x27 else bif x20 then bif !b.2.2.2.2.2.1 then x99.1 else x27 else bif x71 then x100.1 else x27 else x27
 let x102:=x99.2
 let x103:=x100.2
 let x104:=bif x5 then bif x1 then x29 else bif x20 then bif !b.2.2.2.2.2.1 then x102.1 else x29 else bif x71 then x103.1 else x29 else x29
 let x105:=x102.2
 let x106:=x103.2
 let x107:Int:=bif x5 then bif x1 then x31 else bif x20 then bif !b.2.2.2.2.2.1 then x105.1 else x31 else bif x71 then x106.1 else x31 else x31
 let x108:=x105.2
 let x109:=x106.2
 let x110:Int:=bif x5 then bif x1 then x33 else bif x20 then bif !b.2.2.2.2.2.1 then x108.1 else x33 else bif x71 then x109.1 else x33 else x33
 let x111:=x108.2
 let x112:=x109.2
 let x113:=bif x5 then bif x1 then x35 else bif x20 then bif !b.2.2.2.2.2.1 then x111.1 else x35 else bif x71 then x112.1 else x35 else x35
 let x114:=x111.2
 let x115:=x112.2
 let x116:=bif x5 then bif x1 then x37 else bif x20 then bif !b.2.2.2.2.2.1 then x114.1 else x37 else bif x71 then x115.1 else x37 else x37
 let x117:=x114.2
 let x118:=x115.2
 let x119:=bif x5 then bif x1 then x39 else bif x20 then bif !b.2.2.2.2.2.1 then x117.1 else x39 else bif x71 then x118.1 else x39 else x39
 let x120:=x117.2
 let x121:=x118.2
 let x122:=bif x5 then bif x1 then x42 else bif x20 then bif !b.2.2.2.2.2.1 then x120.1 else x42 else bif x71 then x121.1 else x42 else x42
 let x123:=x120.2
 let x124:=x121.2
 let x125:=bif x5 then bif x1 then x45 else bif x20 then bif !b.2.2.2.2.2.1 then x123.1 else x45 else bif x71 then x124.1 else x45 else x45
 let x126:=x123.2
 let x127:=x124.2
 let x128:Int:=bif x5 then bif x1 then x48 else bif x20 then bif !b.2.2.2.2.2.1 then x126.1 else x48 else bif x71 then x127.1 else x48 else x48
 let x129:=x126.2
 let x130:=x127.2
 let x131:Int:=bif x5 then bif x1 then x51 else bif x20 then bif !b.2.2.2.2.2.1 then x129.1 else x51 else bif x71 then x130.1 else x51 else x51
 let x132:=x129.2
 let x133:=x130.2
 let x134:Int:=bif x5 then bif x1 then x54 else bif x20 then bif !b.2.2.2.2.2.1 then x132.1 else x54 else bif x71 then x133.1 else x54 else x54
 let x135:=x132.2
 let x136:=x133.2
 let x137:Int:=bif x5 then bif x1 then x57 else bif x20 then bif !b.2.2.2.2.2.1 then x135.1 else x57 else bif x71 then x136.1 else x57 else x57
 let x138:=x135.2
 let x139:=x136.2
 let x140:Int:=bif x5 then bif x1 then x60 else bif x20 then bif !b.2.2.2.2.2.1 then x138.1 else x60 else bif x71 then x139.1 else x60 else x60
 let x141:=x138.2
 let x142:=x139.2
 let x143:Int:=bif x5 then bif x1 then x63 else bif x20 then bif !b.2.2.2.2.2.1 then x141.1 else x63 else bif x71 then x142.1 else x63 else x63
 let x144:=x141.2
 let x145:=x142.2
 let x146:Int:=bif x5 then bif x1 then x66 else bif x20 then bif !b.2.2.2.2.2.1 then x144.1 else x66 else bif x71 then x145.1 else x66 else x66
 let x147:=bif x5 then bif x1 then x67 else bif x20 then bif !b.2.2.2.2.2.1 then x144.2 else x67 else bif x71 then x145.2 else x67 else x67
 let x148:=Zba (x92,x95,x98,x101,x104,x107,x110,x113,x116,x119,x122,x125,x128,x131,x134,x137,x140,x143,x146,x147) x73 s.1.2.2.2.1.2.2.1
 let x149:=x148.2
 let x150:=x149.2
 let x151:=x150.2
 let x152:=x151.2
 let x153:=x152.2
 let x154:=x153.2
 let x155:=x154.2
 let x156:=x155.2
 let x157:=x156.2
 let x158:=x157.2
 let x159:=x158.2
 let x160:=x159.2
 let x161:=x160.2
 let x162:=x161.2
 let x163:=x162.2
 let x164:=x163.2
 let x165:=x164.2
 let x166:=x165.2
 let x167:=x88.1
 let x168:=x167.2
 .br (!Nat.ble (List.length s.1.2.2.1) most||(!Nat.ble (List.length s.2.1) most||Nat.ble (List.length s.2.2.2.2.2) most)) (.br (!Nat.ble (List.length s.1.2.2.1) most||Nat.ble (List.length s.2.1) most) (.br (Nat.ble (List.length s.1.2.2.1) most) (.br (orR p2 (smG b.2.1&&smC x87)) (.br (orR p1 x17) (.br (x4||(x7||(x10||x15))) (.br (x4||(x7||x9)) (.br (x4||x6) (.br (x3) (.Lf (some (((x78.1,bif x86 then ZaK b.2.1 x87 x89.1 x89.2 else x87,(bif x11 then bif s.1.2.2.2.1.1 !=7 then x92 else bif x71 then x148.1 else x92 else x92,bif x11 then bif s.1.2.2.2.1.1 !=7 then x95 else bif x71 then x149.1 else x95 else x95,bif x11 then bif s.1.2.2.2.1.1 !=7 then x98 else bif x71 then x150.1 else x98 else x98,bif x11 then bif s.1.2.2.2.1.1 !=7 then x101 else bif x71 then x151.1 else x101 else x101,bif x11 then bif s.1.2.2.2.1.1 !=7 then x104 else bif x71 then x152.1 else x104 else x104,bif x11 then bif s.1.2.2.2.1.1 !=7 then x107 else bif x71 then x153.1 else x107 else x107,bif x11 then bif s.1.2.2.2.1.1 !=7 then x110 else bif x71 then x154.1 else x110 else x110,bif x11 then bif s.1.2.2.2.1.1 !=7 then x113 else bif x71 then x155.1 else x113 else x113,bif x11 then bif s.1.2.2.2.1.1 !=7 then x116 else bif x71 then x156.1 else x116 else x116,bif x11 then bif s.1.2.2.2.1.1 !=7 then x119 else bif x71 then x157.1 else x119 else x119,bif x11 then bif s.1.2.2.2.1.1 !=7 then x122 else bif x71 then x158.1 else x122 else x122,bif x11 then bif s.1.2.2.2.1.1 !=7 then x125 else bif x71 then x159.1 else x125 else x125,bif x11 then bif s.1.2.2.2.1.1 !=7 then x128 else bif x71 then x160.1 else x128 else x128,bif x11 then bif s.1.2.2.2.1.1 !=7 then x131 else bif x71 then x161.1 else x131 else x131,bif x11 then bif s.1.2.2.2.1.1 !=7 then x134 else bif x71 then x162.1 else x134 else x134,bif x11 then bif s.1.2.2.2.1.1 !=7 then x137 else bif x71 then x163.1 else x137 else x137,bif x11 then bif s.1.2.2.2.1.1 !=7 then x140 else bif x71 then x164.1 else x140 else x140,bif i.2.2.1 then 0 else bif x11 then bif s.1.2.2.2.1.1 !=7 then x143 else bif x71 then x165.1 else x143 else x143,bif x11 then bif s.1.2.2.2.1.1 !=7 then x146 else bif x71 then x166.1 else x146 else x146,bif x11 then bif s.1.2.2.2.1.1 !=7 then x147 else bif x71 then x166.2 else x147 else x147),(bif x86 then x167.1 else x81,bif x86 then x168.1 else x83,bif i.2.2.1 then 0 else bif x86 then x168.2 else x84),x18,bif x11 then bif s.1.2.2.2.1.1 !=7 then s.2.2.2.2.2 else x14 else s.2.2.2.2.2),x79)))) (.Lf none)) (.Lf none)) (.Lf none)) (.Lf none)) (.Lf none)) (.Lf none)) (.Lf none)) (.Lf none)) (.Lf none)
def ZOY (b:BRDT) (s:SYST) (i:INPT):SYST×PINT:=getO ZjT.Df (ZjS b s i).val
def ZFP (b:BRDT) (s:SYST) (i:INPT):Bool:=okB (ZjS b s i).val
def ZR0:En:=Zg ZpD ZjT (λa=>some (ZFP a.1 a.2.1 a.2.2)) (λa=>ZOY a.1 a.2.1 a.2.2)
theorem ZIh:Zb prog 63 ZR0:=
 pureP 1023 [(76,ZcH),(98,ZjM),(120,Ziu),(121,ZOK)] [] ZpD ZjT ⟨ZeL,ZkY,ZjN,ZOJ,Tv⟩ Tryz.func63 Tryz.call63 trivial (t:=λa=>ZjS a.1 a.2.1 a.2.2)
end
end Go.Proofs.YtpnjbfjomebppaaGreat
open Go Go.S3 Go.Proofs Go.Proofs.Cells
namespace Go.Proofs.YtpnjbfjomebppaaGreat
noncomputable section
theorem ZOV (b:BRDT):(ZjR b).val=(Zfw b).val:=by simp only[ZjR,Zfw,RT.val]
theorem Zro (b:BRDT):Ze7 b=ZbM b/\Zf3 b=ZjU b:=by simp only[Ze7,ZbM,Zf3,ZjU,ZOV];exact⟨trivial,Tv⟩
theorem ZNs (k:Int):(bif k==1 then k==1 else bif k==2 then k==2 else bif k==3 then k==3 else bif k==4 then k==4 else k==5)=(decide (k>=1)&&decide (k<=5)):=by
 by_cases h1:k=1
 ·subst h1;rfl
 by_cases h2:k=2
 ·subst h2;rfl
 by_cases h3:k=3
 ·subst h3;rfl
 by_cases h4:k=4
 ·subst h4;rfl
 by_cases h5:k=5
 ·subst h5;rfl
 have e1:(k==1)=false:=by simpa using h1
 have e2:(k==2)=false:=by simpa using h2
 have e3:(k==3)=false:=by simpa using h3
 have e4:(k==4)=false:=by simpa using h4
 have e5:(k==5)=false:=by simpa using h5
 rw[e1,e2,e3,e4,e5];simp;omega
theorem ZPF (c:CORT):(c.2.2.2.2.1==7)=(Zp c==7):=by
 have:Zp c=Zaf c.2.2.2.2.1:=rfl;rw[this];unfold Zaf;cases h:decide (c.2.2.2.2.1<1)||decide (c.2.2.2.2.1>9)
 ·rfl
 ·simp at h;have:(c.2.2.2.2.1==7)=false:=by simp;omega
  rw[this];rfl
theorem Ziy (s:SYST):(bif s.1.2.2.2.2.1==7 then i64.wrap (s.2.2.2.2.1+1) else 0)=ZaL s:=by unfold ZaL ZCJ;rw[ZPF];simp only[RT.val,bne];cases Zp s.1==7<;>rfl
theorem ZEb {p q:Int} (hp:inR .u8 p) (hq:inR .u8 q):(decide (IntKind.wrap .u8 (p-q)<2)=(p==q||p==IntKind.wrap .u8 (q+1)))/\(decide (IntKind.wrap .u8 (p-q)<2)=true->(IntKind.wrap .u8 (p-q)==1)=(p==IntKind.wrap .u8 (q+1))):=by
 rw[ZhV] at hp hq;have e1:IntKind.wrap .u8 (p-q)=(p-q)%256:=Zy0 _;have e2:IntKind.wrap .u8 (q+1)=(q+1)%256:=Zy0 _;rw[e1,e2];refine⟨?_,λh=> ?_⟩
 ·rw[Bool.eq_iff_iff];simp only[Yj,YH,Yax];omega
 ·rw[Bool.eq_iff_iff];simp only[Yax];simp only[Yj] at h;omega
theorem Zye (n:Int):(if (if 100<n then 100 else n)>0 then if 100<n then 100 else n else 0)=Zm4 n:=by unfold Zm4 ZKr;simp only[RT.val]
theorem ZVr (b:BRDT) (x:TY) (hg:smG b.2.1=true):ZIw b x=bif decide (x.1>=1)&&decide (x.1<=5) then Zgj b.2.1 x.2.1 else bif x.1==6||x.1==7 then Zm4 b.2.2.1 else 0:=by
 have hv:(Zu9 b x).val=some (bif decide (x.1>=1)&&decide (x.1<=5) then Zgj b.2.1 x.2.1 else bif x.1==6||x.1==7 then Zm4 b.2.2.1 else 0):=by
  unfold Zu9;simp only[RT.val,hg,Yh,Ya];cases decide (x.1>=1)&&decide (x.1<=5)
  ·cases x.1==6||x.1==7<;>rfl
  ·rfl
 simp only[ZIw,hv,getO]
theorem ZC3 (d:QT4):ZaI d=bif Zn d then ((IntKind.wrap .u16 (d.1+1),d.2.1,IntKind.wrap .i64 (d.2.2-1)),(d.1,d.2.1),true) else ((0,0,0),(0,0),false):=by unfold ZaI Zha;simp only[RT.val];cases Zn d<;>rfl
theorem pstR (c:CORT):Zbv c=Zp c:=rfl
theorem ZXQ (b:BRDT) (t:SYST) (i:INPT) (x5 x20 x71 x72:Bool) (h5:x5=(!i.2.2.1&&(Zp t.1==3&&ZaU t.1.2.2.2.1.1))) (h20:x20=(t.1.2.2.2.1.1==8||t.1.2.2.2.1.1==9)) (hq:x71=(ZP b (IntKind.wrap .u8 t.1.2.2.2.1.2.1)).2) (hq2:x71=true->x72=(ZP b (IntKind.wrap .u8 t.1.2.2.2.1.2.1)).1) (hj:b.2.2.2.2.2.1=true->x71=false):
  busS b t i=((t.1,t.2.1,(bif x5 then bif decide (t.1.2.2.2.1.1>=1)&&decide (t.1.2.2.2.1.1<=5) then t.2.2.1 else bif x20 then (bif !b.2.2.2.2.2.1 then (vAck t.2.2.1).1 else t.2.2.1) else bif x71 then (ZiE t.2.2.1 x72).1 else t.2.2.1 else t.2.2.1),t.2.2.2),
   bif x5 then bif decide (t.1.2.2.2.1.1>=1)&&decide (t.1.2.2.2.1.1<=5) then Zgw b.2.1 t.2.1 t.1.2.2.2.1.2.1 else bif x20 then (bif !b.2.2.2.2.2.1 then (vAck t.2.2.1).2 else i.2.2.2.2.2.2.2.2.2) else bif x71 then (ZiE t.2.2.1 x72).2 else bif (ZbY b (IntKind.wrap .u8 t.1.2.2.2.1.2.1)).2 then ZhM t.2.2.2.1 (ZbY b (IntKind.wrap .u8 t.1.2.2.2.1.2.1)).1 else i.2.2.2.2.2.2.2.2.2 else 0):=by
 unfold busS;dsimp only;have e:(i.2.2.1||(Zp t.1 !=3|| !ZaU t.1.2.2.2.1.1))= !x5:=by rw[h5,bne];cases i.2.2.1<;>cases Zp t.1==3<;>cases ZaU t.1.2.2.2.1.1<;>rfl
 rw[e];cases hx:x5
 ·rfl
 ·simp only[Yf,Ya,Yc];cases hm:decide (t.1.2.2.2.1.1>=1)&&decide (t.1.2.2.2.1.1<=5)
  ·simp only[Yc];have h6:(t.1.2.2.2.1.1 !=6)=x20:=by
    rw[h5] at hx;simp only[Yb] at hx;have hr:=hx.2.2;unfold ZaU ZzJ at hr;simp only[RT.val] at hr;simp at hr hm;rw[h20];have:t.1.2.2.2.1.1=6\/t.1.2.2.2.1.1=8\/t.1.2.2.2.1.1=9:=by omega
    rcases this with h|h|h<;>rw[h]<;>rfl
   rw[h6,<-hq];cases x20
   ·simp only[YT,Yc];cases hz:x71
    ·simp only[Yc];cases (ZbY b (IntKind.wrap .u8 t.1.2.2.2.1.2.1)).2<;>rfl
    ·simp only[Ya];rw[hq2 hz]
   ·simp only[YK,Ya];cases b.2.2.2.2.2.1<;>rfl
  ·rfl
theorem Zrb (b:BRDT) (p:Int):ZP b p=(p==IntKind.wrap .u8 (b.2.2.2.1+1),!b.2.2.2.2.2.1&&(p==b.2.2.2.1||p==IntKind.wrap .u8 (b.2.2.2.1+1))):=by unfold ZP ZIy;simp only[RT.val];cases b.2.2.2.2.2.1<;>cases p==b.2.2.2.1<;>rfl
theorem ZFo (b:BRDT) (p:Int):ZbY b p=(IntKind.wrap .i64 (IntKind.wrap .u8 (p-b.2.2.2.2.1)),decide (IntKind.wrap .u8 (p-b.2.2.2.2.1)<4)):=by unfold ZbY ZIz;simp only[RT.val]
theorem ZOC (w x y:Int) (a:Bool):decide (w>=bif a then x else y)=bif a then decide (w>=x) else decide (w>=y):=by cases a<;>rfl
theorem ZNF (b:BRDT) (s:SYST) (i:INPT) (hg:smG b.2.1=true):ZbE b (Zm b s i) i=(i.1&&(bif decide (s.1.2.2.2.1.1>=1)&&decide (s.1.2.2.2.1.1<=5) then decide (ZaL s>=Zgj b.2.1 s.1.2.2.2.1.2.1) else bif s.1.2.2.2.1.1==6||s.1.2.2.2.1.1==7 then decide (ZaL s>=Zm4 b.2.2.1) else decide (ZaL s>=0)),
  i.2.1||Zn s.2.2.2.1,i.2.2.1,i.2.2.2.1,i.2.2.2.2.1,i.2.2.2.2.2.1,i.2.2.2.2.2.2.1,i.2.2.2.2.2.2.2.1,bif b.2.2.2.2.2.1 then andI .u8 i.2.2.2.2.2.2.2.2.1 1==1 else vInt (ZaJ s.2.2.1 i.2.2.2.2.2.2.2.2.1)):=by
 unfold ZbE;have e1:ZaL (Zm b s i)=ZaL s:=rfl;have e2:(Zm b s i).1=s.1:=rfl;have e3:(Zm b s i).2.2.2.1=s.2.2.2.1:=rfl;rw[e1,e2,e3,ZVr b _ hg,ZOC,ZOC];have e4:(Zm b s i).2.2.1=bif !b.2.2.2.2.2.1 then ZaJ s.2.2.1 i.2.2.2.2.2.2.2.2.1 else s.2.2.1:=rfl
 rw[e4];cases b.2.2.2.2.2.1<;>simp only[Ya,Yc,Yf,Ym]
def asmP (b:BRDT) (W:SYST) (h r:Bool):SYST:=
 (W.1,(bif h&&Zn W.2.2.2.1 then ZaK b.2.1 W.2.1 (bif Zn W.2.2.2.1 then ((IntKind.wrap .u16 (W.2.2.2.1.1+1),W.2.2.2.1.2.1,IntKind.wrap .i64 (W.2.2.2.1.2.2-1)),(W.2.2.2.1.1,W.2.2.2.1.2.1),true) else ((0,0,0),(0,0),false)).2.1.1 (bif Zn W.2.2.2.1 then ((IntKind.wrap .u16 (W.2.2.2.1.1+1),W.2.2.2.1.2.1,IntKind.wrap .i64 (W.2.2.2.1.2.2-1)),(W.2.2.2.1.1,W.2.2.2.1.2.1),true) else ((0,0,0),(0,0),false)).2.1.2 else W.2.1),
  (W.2.2.1.1,W.2.2.1.2.1,W.2.2.1.2.2.1,W.2.2.1.2.2.2.1,W.2.2.1.2.2.2.2.1,W.2.2.1.2.2.2.2.2.1,W.2.2.1.2.2.2.2.2.2.1,W.2.2.1.2.2.2.2.2.2.2.1,W.2.2.1.2.2.2.2.2.2.2.2.1,W.2.2.1.2.2.2.2.2.2.2.2.2.1,W.2.2.1.2.2.2.2.2.2.2.2.2.2.1,W.2.2.1.2.2.2.2.2.2.2.2.2.2.2.1,W.2.2.1.2.2.2.2.2.2.2.2.2.2.2.2.1,W.2.2.1.2.2.2.2.2.2.2.2.2.2.2.2.2.1,W.2.2.1.2.2.2.2.2.2.2.2.2.2.2.2.2.2.1,W.2.2.1.2.2.2.2.2.2.2.2.2.2.2.2.2.2.2.1,W.2.2.1.2.2.2.2.2.2.2.2.2.2.2.2.2.2.2.2.1,(bif r then 0 else W.2.2.1.2.2.2.2.2.2.2.2.2.2.2.2.2.2.2.2.2.1),W.2.2.1.2.2.2.2.2.2.2.2.2.2.2.2.2.2.2.2.2.2.1,W.2.2.1.2.2.2.2.2.2.2.2.2.2.2.2.2.2.2.2.2.2.2),
  ((bif h&&Zn W.2.2.2.1 then (bif Zn W.2.2.2.1 then ((IntKind.wrap .u16 (W.2.2.2.1.1+1),W.2.2.2.1.2.1,IntKind.wrap .i64 (W.2.2.2.1.2.2-1)),(W.2.2.2.1.1,W.2.2.2.1.2.1),true) else ((0,0,0),(0,0),false)).1.1 else W.2.2.2.1.1),(bif h&&Zn W.2.2.2.1 then (bif Zn W.2.2.2.1 then ((IntKind.wrap .u16 (W.2.2.2.1.1+1),W.2.2.2.1.2.1,IntKind.wrap .i64 (W.2.2.2.1.2.2-1)),(W.2.2.2.1.1,W.2.2.2.1.2.1),true) else ((0,0,0),(0,0),false)).1.2.1 else W.2.2.2.1.2.1),(bif r then 0 else bif h&&Zn W.2.2.2.1 then (bif Zn W.2.2.2.1 then ((IntKind.wrap .u16 (W.2.2.2.1.1+1),W.2.2.2.1.2.1,IntKind.wrap .i64 (W.2.2.2.1.2.2-1)),(W.2.2.2.1.1,W.2.2.2.1.2.1),true) else ((0,0,0),(0,0),false)).1.2.2 else W.2.2.2.1.2.2)),W.2.2.2.2)
theorem ZV7 (b:BRDT) (s:SYST) (i:INPT):(Z4 b s i).1=asmP b (ZaH b s i) (Ze6 (pinS b s i)) i.2.2.1:=by
 show ZmU (ZgS b s i) i.2.2.1=_;have hm:ZgS b s i=bif Ze6 (pinS b s i)&&Zn (ZaH b s i).2.2.2.1 then ((ZaH b s i).1,ZaK b.2.1 (ZaH b s i).2.1 (ZaH b s i).2.2.2.1.1 (ZaH b s i).2.2.2.1.2.1,(ZaH b s i).2.2.1,(IntKind.wrap .u16 ((ZaH b s i).2.2.2.1.1+1),(ZaH b s i).2.2.2.1.2.1,IntKind.wrap .i64 ((ZaH b s i).2.2.2.1.2.2-1)),(ZaH b s i).2.2.2.2) else ZaH b s i:=rfl
 rw[hm];generalize ZaH b s i=W;generalize Ze6 (pinS b s i)=h;generalize i.2.2.1=r;unfold asmP ZmU ZPC;generalize hq:Zn W.2.2.2.1=q;cases h<;>cases q<;>cases r<;>simp only[hq,YK,YT,Ya,Yc]
theorem ZTi (b:BRDT) (s:SYST) (i:INPT) (C:CORT) (P:PICT) (hC:C=Z2 s.1 (ZbE b (Zm b s i) i) (busS b (Zm b s i) i).2) (hP:P=(busS b (Zm b s i) i).1.2.2.1) (x72:Bool)
  (hx:(ZP b (IntKind.wrap .u8 s.1.2.2.2.1.2.1)).2=true->x72=(ZP b (IntKind.wrap .u8 s.1.2.2.2.1.2.1)).1):
  ZaH b s i=(C,(bif Z0 s i then bif s.1.2.2.2.1.1 !=7 then ZaK b.2.1 s.2.1 s.1.2.2.2.1.2.1 s.1.2.2.2.1.2.2.1 else s.2.1 else s.2.1),
   ((bif Z0 s i then bif s.1.2.2.2.1.1 !=7 then P.1 else bif (ZP b (IntKind.wrap .u8 s.1.2.2.2.1.2.1)).2 then (Zba P x72 s.1.2.2.2.1.2.2.1).1 else P.1 else P.1),(bif Z0 s i then bif s.1.2.2.2.1.1 !=7 then P.2.1 else bif (ZP b (IntKind.wrap .u8 s.1.2.2.2.1.2.1)).2 then (Zba P x72 s.1.2.2.2.1.2.2.1).2.1 else P.2.1 else P.2.1),(bif Z0 s i then bif s.1.2.2.2.1.1 !=7 then P.2.2.1 else bif (ZP b (IntKind.wrap .u8 s.1.2.2.2.1.2.1)).2 then (Zba P x72 s.1.2.2.2.1.2.2.1).2.2.1 else P.2.2.1 else P.2.2.1),(bif Z0 s i then bif s.1.2.2.2.1.1 !=7 then P.2.2.2.1 else bif (ZP b (IntKind.wrap .u8 s.1.2.2.2.1.2.1)).2 then (Zba P x72 s.1.2.2.2.1.2.2.1).2.2.2.1 else P.2.2.2.1 else P.2.2.2.1),(bif Z0 s i then bif s.1.2.2.2.1.1 !=7 then P.2.2.2.2.1 else bif (ZP b (IntKind.wrap .u8 s.1.2.2.2.1.2.1)).2 then (Zba P x72 s.1.2.2.2.1.2.2.1).2.2.2.2.1 else P.2.2.2.2.1 else P.2.2.2.2.1),(bif Z0 s i then bif s.1.2.2.2.1.1 !=7 then P.2.2.2.2.2.1 else bif (ZP b (IntKind.wrap .u8 s.1.2.2.2.1.2.1)).2 then (Zba P x72 s.1.2.2.2.1.2.2.1).2.2.2.2.2.1 else P.2.2.2.2.2.1 else P.2.2.2.2.2.1),(bif Z0 s i then bif s.1.2.2.2.1.1 !=7 then P.2.2.2.2.2.2.1 else bif (ZP b (IntKind.wrap .u8 s.1.2.2.2.1.2.1)).2 then (Zba P x72 s.1.2.2.2.1.2.2.1).2.2.2.2.2.2.1 else P.2.2.2.2.2.2.1 else P.2.2.2.2.2.2.1),(bif Z0 s i then bif s.1.2.2.2.1.1 !=7 then P.2.2.2.2.2.2.2.1 else bif (ZP b (IntKind.wrap .u8 s.1.2.2.2.1.2.1)).2 then (Zba P x72 s.1.2.2.2.1.2.2.1).2.2.2.2.2.2.2.1 else P.2.2.2.2.2.2.2.1 else P.2.2.2.2.2.2.2.1),(bif Z0 s i then bif s.1.2.2.2.1.1 !=7 then P.2.2.2.2.2.2.2.2.1 else bif (ZP b (IntKind.wrap .u8 s.1.2.2.2.1.2.1)).2 then (Zba P x72 s.1.2.2.2.1.2.2.1).2.2.2.2.2.2.2.2.1 else P.2.2.2.2.2.2.2.2.1 else P.2.2.2.2.2.2.2.2.1),(bif Z0 s i then bif s.1.2.2.2.1.1 !=7 then P.2.2.2.2.2.2.2.2.2.1 else bif (ZP b (IntKind.wrap .u8 s.1.2.2.2.1.2.1)).2 then (Zba P x72 s.1.2.2.2.1.2.2.1).2.2.2.2.2.2.2.2.2.1 else P.2.2.2.2.2.2.2.2.2.1 else P.2.2.2.2.2.2.2.2.2.1),(bif Z0 s i then bif s.1.2.2.2.1.1 !=7 then P.2.2.2.2.2.2.2.2.2.2.1 else bif (ZP b (IntKind.wrap .u8 s.1.2.2.2.1.2.1)).2 then (Zba P x72 s.1.2.2.2.1.2.2.1).2.2.2.2.2.2.2.2.2.2.1 else P.2.2.2.2.2.2.2.2.2.2.1 else P.2.2.2.2.2.2.2.2.2.2.1),(bif Z0 s i then bif s.1.2.2.2.1.1 !=7 then P.2.2.2.2.2.2.2.2.2.2.2.1 else bif (ZP b (IntKind.wrap .u8 s.1.2.2.2.1.2.1)).2 then (Zba P x72 s.1.2.2.2.1.2.2.1).2.2.2.2.2.2.2.2.2.2.2.1 else P.2.2.2.2.2.2.2.2.2.2.2.1 else P.2.2.2.2.2.2.2.2.2.2.2.1),(bif Z0 s i then bif s.1.2.2.2.1.1 !=7 then P.2.2.2.2.2.2.2.2.2.2.2.2.1 else bif (ZP b (IntKind.wrap .u8 s.1.2.2.2.1.2.1)).2 then (Zba P x72 s.1.2.2.2.1.2.2.1).2.2.2.2.2.2.2.2.2.2.2.2.1 else P.2.2.2.2.2.2.2.2.2.2.2.2.1 else P.2.2.2.2.2.2.2.2.2.2.2.2.1),(bif Z0 s i then bif s.1.2.2.2.1.1 !=7 then P.2.2.2.2.2.2.2.2.2.2.2.2.2.1 else bif (ZP b (IntKind.wrap .u8 s.1.2.2.2.1.2.1)).2 then (Zba P x72 s.1.2.2.2.1.2.2.1).2.2.2.2.2.2.2.2.2.2.2.2.2.1 else P.2.2.2.2.2.2.2.2.2.2.2.2.2.1 else P.2.2.2.2.2.2.2.2.2.2.2.2.2.1),(bif Z0 s i then bif s.1.2.2.2.1.1 !=7 then P.2.2.2.2.2.2.2.2.2.2.2.2.2.2.1 else bif (ZP b (IntKind.wrap .u8 s.1.2.2.2.1.2.1)).2 then (Zba P x72 s.1.2.2.2.1.2.2.1).2.2.2.2.2.2.2.2.2.2.2.2.2.2.1 else P.2.2.2.2.2.2.2.2.2.2.2.2.2.2.1 else P.2.2.2.2.2.2.2.2.2.2.2.2.2.2.1),(bif Z0 s i then bif s.1.2.2.2.1.1 !=7 then P.2.2.2.2.2.2.2.2.2.2.2.2.2.2.2.1 else bif (ZP b (IntKind.wrap .u8 s.1.2.2.2.1.2.1)).2 then (Zba P x72 s.1.2.2.2.1.2.2.1).2.2.2.2.2.2.2.2.2.2.2.2.2.2.2.1 else P.2.2.2.2.2.2.2.2.2.2.2.2.2.2.2.1 else P.2.2.2.2.2.2.2.2.2.2.2.2.2.2.2.1),(bif Z0 s i then bif s.1.2.2.2.1.1 !=7 then P.2.2.2.2.2.2.2.2.2.2.2.2.2.2.2.2.1 else bif (ZP b (IntKind.wrap .u8 s.1.2.2.2.1.2.1)).2 then (Zba P x72 s.1.2.2.2.1.2.2.1).2.2.2.2.2.2.2.2.2.2.2.2.2.2.2.2.1 else P.2.2.2.2.2.2.2.2.2.2.2.2.2.2.2.2.1 else P.2.2.2.2.2.2.2.2.2.2.2.2.2.2.2.2.1),(bif Z0 s i then bif s.1.2.2.2.1.1 !=7 then P.2.2.2.2.2.2.2.2.2.2.2.2.2.2.2.2.2.1 else bif (ZP b (IntKind.wrap .u8 s.1.2.2.2.1.2.1)).2 then (Zba P x72 s.1.2.2.2.1.2.2.1).2.2.2.2.2.2.2.2.2.2.2.2.2.2.2.2.2.1 else P.2.2.2.2.2.2.2.2.2.2.2.2.2.2.2.2.2.1 else P.2.2.2.2.2.2.2.2.2.2.2.2.2.2.2.2.2.1),(bif Z0 s i then bif s.1.2.2.2.1.1 !=7 then P.2.2.2.2.2.2.2.2.2.2.2.2.2.2.2.2.2.2.1 else bif (ZP b (IntKind.wrap .u8 s.1.2.2.2.1.2.1)).2 then (Zba P x72 s.1.2.2.2.1.2.2.1).2.2.2.2.2.2.2.2.2.2.2.2.2.2.2.2.2.2.1 else P.2.2.2.2.2.2.2.2.2.2.2.2.2.2.2.2.2.2.1 else P.2.2.2.2.2.2.2.2.2.2.2.2.2.2.2.2.2.2.1),(bif Z0 s i then bif s.1.2.2.2.1.1 !=7 then P.2.2.2.2.2.2.2.2.2.2.2.2.2.2.2.2.2.2.2 else bif (ZP b (IntKind.wrap .u8 s.1.2.2.2.1.2.1)).2 then (Zba P x72 s.1.2.2.2.1.2.2.1).2.2.2.2.2.2.2.2.2.2.2.2.2.2.2.2.2.2.2 else P.2.2.2.2.2.2.2.2.2.2.2.2.2.2.2.2.2.2.2 else P.2.2.2.2.2.2.2.2.2.2.2.2.2.2.2.2.2.2.2)),
   ((bif Z0 s i then bif s.1.2.2.2.1.1 !=7 then s.2.2.2.1.1 else bif (ZP b (IntKind.wrap .u8 s.1.2.2.2.1.2.1)).2 then s.2.2.2.1.1 else bif (ZbY b (IntKind.wrap .u8 s.1.2.2.2.1.2.1)).2 then (ZdD s.2.2.2.1 (ZbY b (IntKind.wrap .u8 s.1.2.2.2.1.2.1)).1 s.1.2.2.2.1.2.2.1).1 else s.2.2.2.1.1 else s.2.2.2.1.1),(bif Z0 s i then bif s.1.2.2.2.1.1 !=7 then s.2.2.2.1.2.1 else bif (ZP b (IntKind.wrap .u8 s.1.2.2.2.1.2.1)).2 then s.2.2.2.1.2.1 else bif (ZbY b (IntKind.wrap .u8 s.1.2.2.2.1.2.1)).2 then (ZdD s.2.2.2.1 (ZbY b (IntKind.wrap .u8 s.1.2.2.2.1.2.1)).1 s.1.2.2.2.1.2.2.1).2.1 else s.2.2.2.1.2.1 else s.2.2.2.1.2.1),(bif Z0 s i then bif s.1.2.2.2.1.1 !=7 then s.2.2.2.1.2.2 else bif (ZP b (IntKind.wrap .u8 s.1.2.2.2.1.2.1)).2 then s.2.2.2.1.2.2 else bif (ZbY b (IntKind.wrap .u8 s.1.2.2.2.1.2.1)).2 then (ZdD s.2.2.2.1 (ZbY b (IntKind.wrap .u8 s.1.2.2.2.1.2.1)).1 s.1.2.2.2.1.2.2.1).2.2 else s.2.2.2.1.2.2 else s.2.2.2.1.2.2)),
   ZaL s,(bif Z0 s i then bif s.1.2.2.2.1.1 !=7 then s.2.2.2.2.2 else s.2.2.2.2.2++[(IntKind.wrap .u8 s.1.2.2.2.1.2.1,s.1.2.2.2.1.2.2.1)] else s.2.2.2.2.2)):=by
 obtain⟨k1,k2,k3⟩:=Zf1 b (Zm b s i) i;have hc:ZeC b s i=(C,s.2.1,P,s.2.2.2.1,ZaL s,s.2.2.2.2.2):=by unfold ZeC;dsimp only;rw[k1,k2,k3,hC,hP];rfl
 unfold ZaH;rw[hc];cases Z0 s i
 ·rfl
 ·simp only[Ya];unfold Zf6;dsimp only;cases s.1.2.2.2.1.1 !=7
  ·simp only[Yc];cases hq:(ZP b (IntKind.wrap .u8 s.1.2.2.2.1.2.1)).2
   ·simp only[Yc];cases (ZbY b (IntKind.wrap .u8 s.1.2.2.2.1.2.1)).2<;>rfl
   ·simp only[Ya];rw[hx hq]
  ·rfl
theorem pic_p (x5 me x20 J x71:Bool) (Q A R:PICT):(bif x5 then bif me then Q else bif x20 then (bif !J then A else Q) else bif x71 then R else Q else Q)=
  ((bif x5 then bif me then Q.1 else bif x20 then bif !J then A.1 else Q.1 else bif x71 then R.1 else Q.1 else Q.1),(bif x5 then bif me then Q.2.1 else bif x20 then bif !J then A.2.1 else Q.2.1 else bif x71 then R.2.1 else Q.2.1 else Q.2.1),(bif x5 then bif me then Q.2.2.1 else bif x20 then bif !J then A.2.2.1 else Q.2.2.1 else bif x71 then R.2.2.1 else Q.2.2.1 else Q.2.2.1),(bif x5 then bif me then Q.2.2.2.1 else bif x20 then bif !J then A.2.2.2.1 else Q.2.2.2.1 else bif x71 then R.2.2.2.1 else Q.2.2.2.1 else Q.2.2.2.1),(bif x5 then bif me then Q.2.2.2.2.1 else bif x20 then bif !J then A.2.2.2.2.1 else Q.2.2.2.2.1 else bif x71 then R.2.2.2.2.1 else Q.2.2.2.2.1 else Q.2.2.2.2.1),(bif x5 then bif me then Q.2.2.2.2.2.1 else bif x20 then bif !J then A.2.2.2.2.2.1 else Q.2.2.2.2.2.1 else bif x71 then R.2.2.2.2.2.1 else Q.2.2.2.2.2.1 else Q.2.2.2.2.2.1),(bif x5 then bif me then Q.2.2.2.2.2.2.1 else bif x20 then bif !J then A.2.2.2.2.2.2.1 else Q.2.2.2.2.2.2.1 else bif x71 then R.2.2.2.2.2.2.1 else Q.2.2.2.2.2.2.1 else Q.2.2.2.2.2.2.1),(bif x5 then bif me then Q.2.2.2.2.2.2.2.1 else bif x20 then bif !J then A.2.2.2.2.2.2.2.1 else Q.2.2.2.2.2.2.2.1 else bif x71 then R.2.2.2.2.2.2.2.1 else Q.2.2.2.2.2.2.2.1 else Q.2.2.2.2.2.2.2.1),(bif x5 then bif me then Q.2.2.2.2.2.2.2.2.1 else bif x20 then bif !J then A.2.2.2.2.2.2.2.2.1 else Q.2.2.2.2.2.2.2.2.1 else bif x71 then R.2.2.2.2.2.2.2.2.1 else Q.2.2.2.2.2.2.2.2.1 else Q.2.2.2.2.2.2.2.2.1),(bif x5 then bif me then Q.2.2.2.2.2.2.2.2.2.1 else bif x20 then bif !J then A.2.2.2.2.2.2.2.2.2.1 else Q.2.2.2.2.2.2.2.2.2.1 else bif x71 then R.2.2.2.2.2.2.2.2.2.1 else Q.2.2.2.2.2.2.2.2.2.1 else Q.2.2.2.2.2.2.2.2.2.1),(bif x5 then bif me then Q.2.2.2.2.2.2.2.2.2.2.1 else bif x20 then bif !J then A.2.2.2.2.2.2.2.2.2.2.1 else Q.2.2.2.2.2.2.2.2.2.2.1 else bif x71 then R.2.2.2.2.2.2.2.2.2.2.1 else Q.2.2.2.2.2.2.2.2.2.2.1 else Q.2.2.2.2.2.2.2.2.2.2.1),(bif x5 then bif me then Q.2.2.2.2.2.2.2.2.2.2.2.1 else bif x20 then bif !J then A.2.2.2.2.2.2.2.2.2.2.2.1 else Q.2.2.2.2.2.2.2.2.2.2.2.1 else bif x71 then R.2.2.2.2.2.2.2.2.2.2.2.1 else Q.2.2.2.2.2.2.2.2.2.2.2.1 else Q.2.2.2.2.2.2.2.2.2.2.2.1),(bif x5 then bif me then Q.2.2.2.2.2.2.2.2.2.2.2.2.1 else bif x20 then bif !J then A.2.2.2.2.2.2.2.2.2.2.2.2.1 else Q.2.2.2.2.2.2.2.2.2.2.2.2.1 else bif x71 then R.2.2.2.2.2.2.2.2.2.2.2.2.1 else Q.2.2.2.2.2.2.2.2.2.2.2.2.1 else Q.2.2.2.2.2.2.2.2.2.2.2.2.1),(bif x5 then bif me then Q.2.2.2.2.2.2.2.2.2.2.2.2.2.1 else bif x20 then bif !J then A.2.2.2.2.2.2.2.2.2.2.2.2.2.1 else Q.2.2.2.2.2.2.2.2.2.2.2.2.2.1 else bif x71 then R.2.2.2.2.2.2.2.2.2.2.2.2.2.1 else Q.2.2.2.2.2.2.2.2.2.2.2.2.2.1 else Q.2.2.2.2.2.2.2.2.2.2.2.2.2.1),(bif x5 then bif me then Q.2.2.2.2.2.2.2.2.2.2.2.2.2.2.1 else bif x20 then bif !J then A.2.2.2.2.2.2.2.2.2.2.2.2.2.2.1 else Q.2.2.2.2.2.2.2.2.2.2.2.2.2.2.1 else bif x71 then R.2.2.2.2.2.2.2.2.2.2.2.2.2.2.1 else Q.2.2.2.2.2.2.2.2.2.2.2.2.2.2.1 else Q.2.2.2.2.2.2.2.2.2.2.2.2.2.2.1),(bif x5 then bif me then Q.2.2.2.2.2.2.2.2.2.2.2.2.2.2.2.1 else bif x20 then bif !J then A.2.2.2.2.2.2.2.2.2.2.2.2.2.2.2.1 else Q.2.2.2.2.2.2.2.2.2.2.2.2.2.2.2.1 else bif x71 then R.2.2.2.2.2.2.2.2.2.2.2.2.2.2.2.1 else Q.2.2.2.2.2.2.2.2.2.2.2.2.2.2.2.1 else Q.2.2.2.2.2.2.2.2.2.2.2.2.2.2.2.1),(bif x5 then bif me then Q.2.2.2.2.2.2.2.2.2.2.2.2.2.2.2.2.1 else bif x20 then bif !J then A.2.2.2.2.2.2.2.2.2.2.2.2.2.2.2.2.1 else Q.2.2.2.2.2.2.2.2.2.2.2.2.2.2.2.2.1 else bif x71 then R.2.2.2.2.2.2.2.2.2.2.2.2.2.2.2.2.1 else Q.2.2.2.2.2.2.2.2.2.2.2.2.2.2.2.2.1 else Q.2.2.2.2.2.2.2.2.2.2.2.2.2.2.2.2.1),(bif x5 then bif me then Q.2.2.2.2.2.2.2.2.2.2.2.2.2.2.2.2.2.1 else bif x20 then bif !J then A.2.2.2.2.2.2.2.2.2.2.2.2.2.2.2.2.2.1 else Q.2.2.2.2.2.2.2.2.2.2.2.2.2.2.2.2.2.1 else bif x71 then R.2.2.2.2.2.2.2.2.2.2.2.2.2.2.2.2.2.1 else Q.2.2.2.2.2.2.2.2.2.2.2.2.2.2.2.2.2.1 else Q.2.2.2.2.2.2.2.2.2.2.2.2.2.2.2.2.2.1),(bif x5 then bif me then Q.2.2.2.2.2.2.2.2.2.2.2.2.2.2.2.2.2.2.1 else bif x20 then bif !J then A.2.2.2.2.2.2.2.2.2.2.2.2.2.2.2.2.2.2.1 else Q.2.2.2.2.2.2.2.2.2.2.2.2.2.2.2.2.2.2.1 else bif x71 then R.2.2.2.2.2.2.2.2.2.2.2.2.2.2.2.2.2.2.1 else Q.2.2.2.2.2.2.2.2.2.2.2.2.2.2.2.2.2.2.1 else Q.2.2.2.2.2.2.2.2.2.2.2.2.2.2.2.2.2.2.1),(bif x5 then bif me then Q.2.2.2.2.2.2.2.2.2.2.2.2.2.2.2.2.2.2.2 else bif x20 then bif !J then A.2.2.2.2.2.2.2.2.2.2.2.2.2.2.2.2.2.2.2 else Q.2.2.2.2.2.2.2.2.2.2.2.2.2.2.2.2.2.2.2 else bif x71 then R.2.2.2.2.2.2.2.2.2.2.2.2.2.2.2.2.2.2.2 else Q.2.2.2.2.2.2.2.2.2.2.2.2.2.2.2.2.2.2.2 else Q.2.2.2.2.2.2.2.2.2.2.2.2.2.2.2.2.2.2.2)):=by
 cases x5
 ·rfl
 ·cases me
  ·cases x20
   ·cases x71<;>rfl
   ·cases J<;>rfl
  ·rfl
theorem ZpC (b:BRDT) (s:SYST) (i:INPT) (hg:smG b.2.1=true) (hc:s.2.1.length<=900000) (ho:s.2.2.2.2.2.length<=900000) (hk:s.1.2.2.1.length<=900000) (hp:inR .u8 b.2.2.2.1):
  (ZjS b s i).val=some ((Z4 b s i).1,(Z4 b s i).2.1):=by
 have hms:=mst;obtain⟨p1,p2⟩:=ZEb (p:=IntKind.wrap .u8 s.1.2.2.2.1.2.1) (Zao .u8 _) hp;have b1:Nat.ble (List.length s.1.2.2.1) most=true:=ZV (by omega);have b2:Nat.ble (List.length s.2.1) most=true:=ZV (by omega);have b3:Nat.ble (List.length s.2.2.2.2.2) most=true:=ZV (by omega);have b4:∀y:Int×Int,Nat.ble (List.length (s.2.2.2.2.2++[y])) most=true:=λy=>ZV (by simp;omega)
 have b5:smC s.2.1=true:=smCb (by omega);have b6:∀t v,smC (ZaK b.2.1 s.2.1 t v)=true:=λt v=>smCb (by have:=Zix b.2.1 s.2.1 t v;omega)
 have b7:∀c1 c2:Bool,∀t v,smC (bif c1 then bif c2 then ZaK b.2.1 s.2.1 t v else s.2.1 else s.2.1)=true:=λc1 c2 t v=>by cases c1<;>cases c2<;>first|exact b6 t v|exact b5
 have e8:(s.1.1,s.1.2.1,(bif !i.2.2.1 then s.1.2.2.1 else s.1.2.2.1),s.1.2.2.2)=s.1:=by cases i.2.2.1<;>rfl
 have b9:Zh8 s.1=true:=Zef.2 (by omega);have hb:=ZXQ b (Zm b s i) i (!i.2.2.1&&(Zp s.1==3&&ZaU s.1.2.2.2.1.1)) (s.1.2.2.2.1.1==8||s.1.2.2.2.1.1==9) (!b.2.2.2.2.2.1&&decide (IntKind.wrap .u8 (IntKind.wrap .u8 s.1.2.2.2.1.2.1-b.2.2.2.1)<2)) (IntKind.wrap .u8 (IntKind.wrap .u8 s.1.2.2.2.1.2.1-b.2.2.2.1)==1) rfl rfl
  (by rw[Zrb,p1];rfl) (λh=>by rw[Zrb];simp only[Yb] at h;exact p2 h.2) (λh=>by rw[h];rfl)
 obtain⟨Q,hQ⟩:∃Q,(Zm b s i).2.2.1=Q:=⟨_,rfl⟩;have hQ0:Q=bif !b.2.2.2.2.2.1 then ZaJ s.2.2.1 i.2.2.2.2.2.2.2.2.1 else s.2.2.1:=hQ.symm
 have q0:(bif b.2.2.2.2.2.1 then s.2.2.1.1 else (ZaJ s.2.2.1 i.2.2.2.2.2.2.2.2.1).1)=Q.1:=by rw[hQ0];cases b.2.2.2.2.2.1<;>rfl
 have q1:(bif b.2.2.2.2.2.1 then s.2.2.1.2.1 else (ZaJ s.2.2.1 i.2.2.2.2.2.2.2.2.1).2.1)=Q.2.1:=by rw[hQ0];cases b.2.2.2.2.2.1<;>rfl
 have q2:(bif b.2.2.2.2.2.1 then s.2.2.1.2.2.1 else (ZaJ s.2.2.1 i.2.2.2.2.2.2.2.2.1).2.2.1)=Q.2.2.1:=by rw[hQ0];cases b.2.2.2.2.2.1<;>rfl
 have q3:(bif b.2.2.2.2.2.1 then s.2.2.1.2.2.2.1 else (ZaJ s.2.2.1 i.2.2.2.2.2.2.2.2.1).2.2.2.1)=Q.2.2.2.1:=by rw[hQ0];cases b.2.2.2.2.2.1<;>rfl
 have q4:(bif b.2.2.2.2.2.1 then s.2.2.1.2.2.2.2.1 else (ZaJ s.2.2.1 i.2.2.2.2.2.2.2.2.1).2.2.2.2.1)=Q.2.2.2.2.1:=by rw[hQ0];cases b.2.2.2.2.2.1<;>rfl
 have q5:(bif b.2.2.2.2.2.1 then s.2.2.1.2.2.2.2.2.1 else (ZaJ s.2.2.1 i.2.2.2.2.2.2.2.2.1).2.2.2.2.2.1)=Q.2.2.2.2.2.1:=by rw[hQ0];cases b.2.2.2.2.2.1<;>rfl
 have q6:(bif b.2.2.2.2.2.1 then s.2.2.1.2.2.2.2.2.2.1 else (ZaJ s.2.2.1 i.2.2.2.2.2.2.2.2.1).2.2.2.2.2.2.1)=Q.2.2.2.2.2.2.1:=by rw[hQ0];cases b.2.2.2.2.2.1<;>rfl
 have q7:(bif b.2.2.2.2.2.1 then s.2.2.1.2.2.2.2.2.2.2.1 else (ZaJ s.2.2.1 i.2.2.2.2.2.2.2.2.1).2.2.2.2.2.2.2.1)=Q.2.2.2.2.2.2.2.1:=by rw[hQ0];cases b.2.2.2.2.2.1<;>rfl
 have q8:(bif b.2.2.2.2.2.1 then s.2.2.1.2.2.2.2.2.2.2.2.1 else (ZaJ s.2.2.1 i.2.2.2.2.2.2.2.2.1).2.2.2.2.2.2.2.2.1)=Q.2.2.2.2.2.2.2.2.1:=by rw[hQ0];cases b.2.2.2.2.2.1<;>rfl
 have q9:(bif b.2.2.2.2.2.1 then s.2.2.1.2.2.2.2.2.2.2.2.2.1 else (ZaJ s.2.2.1 i.2.2.2.2.2.2.2.2.1).2.2.2.2.2.2.2.2.2.1)=Q.2.2.2.2.2.2.2.2.2.1:=by rw[hQ0];cases b.2.2.2.2.2.1<;>rfl
 have q10:(bif b.2.2.2.2.2.1 then s.2.2.1.2.2.2.2.2.2.2.2.2.2.1 else (ZaJ s.2.2.1 i.2.2.2.2.2.2.2.2.1).2.2.2.2.2.2.2.2.2.2.1)=Q.2.2.2.2.2.2.2.2.2.2.1:=by rw[hQ0];cases b.2.2.2.2.2.1<;>rfl
 have q11:(bif b.2.2.2.2.2.1 then s.2.2.1.2.2.2.2.2.2.2.2.2.2.2.1 else (ZaJ s.2.2.1 i.2.2.2.2.2.2.2.2.1).2.2.2.2.2.2.2.2.2.2.2.1)=Q.2.2.2.2.2.2.2.2.2.2.2.1:=by rw[hQ0];cases b.2.2.2.2.2.1<;>rfl
 have q12:(bif b.2.2.2.2.2.1 then s.2.2.1.2.2.2.2.2.2.2.2.2.2.2.2.1 else (ZaJ s.2.2.1 i.2.2.2.2.2.2.2.2.1).2.2.2.2.2.2.2.2.2.2.2.2.1)=Q.2.2.2.2.2.2.2.2.2.2.2.2.1:=by rw[hQ0];cases b.2.2.2.2.2.1<;>rfl
 have q13:(bif b.2.2.2.2.2.1 then s.2.2.1.2.2.2.2.2.2.2.2.2.2.2.2.2.1 else (ZaJ s.2.2.1 i.2.2.2.2.2.2.2.2.1).2.2.2.2.2.2.2.2.2.2.2.2.2.1)=Q.2.2.2.2.2.2.2.2.2.2.2.2.2.1:=by rw[hQ0];cases b.2.2.2.2.2.1<;>rfl
 have q14:(bif b.2.2.2.2.2.1 then s.2.2.1.2.2.2.2.2.2.2.2.2.2.2.2.2.2.1 else (ZaJ s.2.2.1 i.2.2.2.2.2.2.2.2.1).2.2.2.2.2.2.2.2.2.2.2.2.2.2.1)=Q.2.2.2.2.2.2.2.2.2.2.2.2.2.2.1:=by rw[hQ0];cases b.2.2.2.2.2.1<;>rfl
 have q15:(bif b.2.2.2.2.2.1 then s.2.2.1.2.2.2.2.2.2.2.2.2.2.2.2.2.2.2.1 else (ZaJ s.2.2.1 i.2.2.2.2.2.2.2.2.1).2.2.2.2.2.2.2.2.2.2.2.2.2.2.2.1)=Q.2.2.2.2.2.2.2.2.2.2.2.2.2.2.2.1:=by rw[hQ0];cases b.2.2.2.2.2.1<;>rfl
 have q16:(bif b.2.2.2.2.2.1 then s.2.2.1.2.2.2.2.2.2.2.2.2.2.2.2.2.2.2.2.1 else (ZaJ s.2.2.1 i.2.2.2.2.2.2.2.2.1).2.2.2.2.2.2.2.2.2.2.2.2.2.2.2.2.1)=Q.2.2.2.2.2.2.2.2.2.2.2.2.2.2.2.2.1:=by rw[hQ0];cases b.2.2.2.2.2.1<;>rfl
 have q17:(bif b.2.2.2.2.2.1 then s.2.2.1.2.2.2.2.2.2.2.2.2.2.2.2.2.2.2.2.2.1 else (ZaJ s.2.2.1 i.2.2.2.2.2.2.2.2.1).2.2.2.2.2.2.2.2.2.2.2.2.2.2.2.2.2.1)=Q.2.2.2.2.2.2.2.2.2.2.2.2.2.2.2.2.2.1:=by rw[hQ0];cases b.2.2.2.2.2.1<;>rfl
 have q18:(bif b.2.2.2.2.2.1 then s.2.2.1.2.2.2.2.2.2.2.2.2.2.2.2.2.2.2.2.2.2.1 else (ZaJ s.2.2.1 i.2.2.2.2.2.2.2.2.1).2.2.2.2.2.2.2.2.2.2.2.2.2.2.2.2.2.2.1)=Q.2.2.2.2.2.2.2.2.2.2.2.2.2.2.2.2.2.2.1:=by rw[hQ0];cases b.2.2.2.2.2.1<;>rfl
 have q19:(bif b.2.2.2.2.2.1 then s.2.2.1.2.2.2.2.2.2.2.2.2.2.2.2.2.2.2.2.2.2.2 else (ZaJ s.2.2.1 i.2.2.2.2.2.2.2.2.1).2.2.2.2.2.2.2.2.2.2.2.2.2.2.2.2.2.2.2)=Q.2.2.2.2.2.2.2.2.2.2.2.2.2.2.2.2.2.2.2:=by rw[hQ0];cases b.2.2.2.2.2.1<;>rfl
 obtain⟨L,hL⟩:∃L,ZbE b (Zm b s i) i=L:=⟨_,rfl⟩;have hL':(i.1&&(bif decide (s.1.2.2.2.1.1>=1)&&decide (s.1.2.2.2.1.1<=5) then decide (ZaL s>=Zgj b.2.1 s.1.2.2.2.1.2.1) else bif s.1.2.2.2.1.1==6||s.1.2.2.2.1.1==7 then decide (ZaL s>=Zm4 b.2.2.1) else decide (ZaL s>=0)),i.2.1||Zn s.2.2.2.1,i.2.2.1,i.2.2.2.1,i.2.2.2.2.1,i.2.2.2.2.2.1,i.2.2.2.2.2.2.1,i.2.2.2.2.2.2.2.1,bif b.2.2.2.2.2.1 then andI .u8 i.2.2.2.2.2.2.2.2.1 1==1 else vInt (ZaJ s.2.2.1 i.2.2.2.2.2.2.2.2.1))=L:=(ZNF b s i hg).symm.trans hL;have hpic:=pic_p (!i.2.2.1&&(Zp s.1==3&&ZaU s.1.2.2.2.1.1)) (decide (s.1.2.2.2.1.1>=1)&&decide (s.1.2.2.2.1.1<=5)) (s.1.2.2.2.1.1==8||s.1.2.2.2.1.1==9) b.2.2.2.2.2.1 (!b.2.2.2.2.2.1&&decide (IntKind.wrap .u8 ((IntKind.wrap .u8 s.1.2.2.2.1.2.1)-b.2.2.2.1)<2)) Q (vAck Q).1 (ZiE Q (IntKind.wrap .u8 ((IntKind.wrap .u8 s.1.2.2.2.1.2.1)-b.2.2.2.1)==1)).1;rw[hQ] at hb;obtain⟨D,hD⟩:∃D,(busS b (Zm b s i) i).2=D:=⟨_,rfl⟩;have hD':(bif (!i.2.2.1&&(Zp s.1==3&&ZaU s.1.2.2.2.1.1)) then bif (decide (s.1.2.2.2.1.1>=1)&&decide (s.1.2.2.2.1.1<=5)) then Zgw b.2.1 s.2.1 s.1.2.2.2.1.2.1 else bif (s.1.2.2.2.1.1==8||s.1.2.2.2.1.1==9) then bif !b.2.2.2.2.2.1 then (vAck Q).2 else i.2.2.2.2.2.2.2.2.2 else bif (!b.2.2.2.2.2.1&&decide (IntKind.wrap .u8 ((IntKind.wrap .u8 s.1.2.2.2.1.2.1)-b.2.2.2.1)<2)) then (ZiE Q (IntKind.wrap .u8 ((IntKind.wrap .u8 s.1.2.2.2.1.2.1)-b.2.2.2.1)==1)).2 else bif decide (IntKind.wrap .u8 ((IntKind.wrap .u8 s.1.2.2.2.1.2.1)-b.2.2.2.2.1)<4) then ZhM s.2.2.2.1 (IntKind.wrap .i64 (IntKind.wrap .u8 ((IntKind.wrap .u8 s.1.2.2.2.1.2.1)-b.2.2.2.2.1))) else i.2.2.2.2.2.2.2.2.2 else 0)=D:=by rw[<-hD,hb,ZFo];rfl
 have hB1:_=(busS b (Zm b s i) i).1.2.2.1:=hpic.symm.trans (by rw[hb];rfl);have hP:pinS b s i=Zcr s.1 L D:=by unfold pinS;rw[(Zf1 b (Zm b s i) i).1,hL,hD];rfl
 have hpins:(Z4 b s i).2.1=Zcr s.1 L D:=hP;rw[hpins,ZV7,hP,ZTi b s i (Z2 s.1 L D) _ (by rw[hL,hD]) hB1 (IntKind.wrap .u8 ((IntKind.wrap .u8 s.1.2.2.2.1.2.1)-b.2.2.2.1)==1) (λh=>by rw[Zrb] at h|-;rw[<-p1] at h;simp only[Yb] at h;exact p2 h.2)];unfold asmP Z0 Ze6;dsimp only;unfold ZjS;simp only[RT.val,b1,b2,b3,b4,b5,b7,e8,b9,hg,ZNs,Ziy,Zye,ZC3,clkX,pstR,ZaM,Zae,Zrb,ZFo,<-p1,Bool.and_assoc,Yag,YQ,Yh,Yf,Yi,Yt,Ya,q0,q1,q2,q3,q4,q5,q6,q7,q8,q9,q10,q11,q12,q13,q14,q15,q16,q17,q18,q19,hL',hD']
def ZvX (b:BRDT) (s:SYST):Bool:=smG b.2.1&&(Nat.ble s.2.1.length 900000&&(Nat.ble s.2.2.2.2.2.length 900000&&Nat.ble s.1.2.2.1.length 900000))
def ZpF:En:=Zg ZpD ZjT (λa=>some (ZvX a.1 a.2.1)) (λa=>((Z4 a.1 a.2.1 a.2.2).1,(Z4 a.1 a.2.1 a.2.2).2.1))
theorem ZpE:Zb Tryz.prog 63 ZpF:=ZIh.pure_congr
 (λa h hp=>by
  have hp:ZvX a.1 a.2.1=true:=by simpa using hp
  simp only[ZvX,Yb,YB] at hp;have hv:=ZpC a.1 a.2.1 a.2.2 hp.1 hp.2.1 hp.2.2.1 hp.2.2.2 h.1.2.2.2.1
  simp[ZFP,hv,okB])
 (λa h hp=>by
  have hp:ZvX a.1 a.2.1=true:=by simpa using hp
  simp only[ZvX,Yb,YB] at hp;have hv:=ZpC a.1 a.2.1 a.2.2 hp.1 hp.2.1 hp.2.2.1 hp.2.2.2 h.1.2.2.2.1
  simp only[ZOY,hv,getO])
def inpX (a b c k:Int):INPT:=bif k !=Zfa a b c then ZI else
 (andI u8 a 1==0,andI u8 a 2 !=0,andI u8 a 4 !=0,andI u8 a 8 !=0,andI u8 a 16 !=0,andI u8 a 32 !=0,andI u8 a 64 !=0,andI u8 a 128 !=0,b,c)
def decX:List Int->List INPT
 |a::b::c::k::l=>inpX a b c k::decX l
 |_=>[]
theorem ZXL (l:List Int) (i:Nat) (h:i+4<=l.length):l.drop i=R.get (R.int .u8) l (i:Int)::R.get (R.int .u8) l ((i+1:Nat):Int)::R.get (R.int .u8) l ((i+2:Nat):Int)::R.get (R.int .u8) l ((i+3:Nat):Int)::l.drop (i+4):=by
 have hg:∀j:Nat,(hj:j<l.length)->R.get (R.int .u8) l (j:Int)=l[j]:=λj hj=>by simp[R.get,hj]
 rw[Y8 (by omega:i<l.length),Y8 (by omega:i+1<l.length),Y8 (by omega:i+1+1<l.length),Y8 (by omega:i+1+1+1<l.length)];rw[hg i (by omega),hg (i+1) (by omega),hg (i+2) (by omega),hg (i+3) (by omega)]
variable {l:List Int}
theorem ZyI (h:l.length<4):decX l=[]:=by
 match l with
 |[]=>rfl
 |[_]=>rfl
 |[_,_]=>rfl
 |[_,_,_]=>rfl
 |_::_::_::_::_=>simp at h;omega
theorem dec_len:∀l:List Int,(decX l).length=l.length/4
 |a::b::c::k::l=>by have:=dec_len l;simp only[decX,List.length_cons,this];omega
 |[]=>by simp[decX]
 |[_]=>by simp[decX]
 |[_,_]=>by simp[decX]
 |[_,_,_]=>by simp[decX]
theorem Zmq (l:List Int) (hl:l.length<=4000):ZaB l=decX l:=by
 have hms:=mst;obtain⟨r,hr,h0,h1⟩:=ZC (fl:=false) (t:=Zbs) (fuel:=λ_=>1000000000000)
  (λa=>∃(i:Nat) (o:List INPT),4*i<=l.length/\o.length=i/\o++decX (l.drop (4*i))=decX l/\a=(l,((4*i:Nat):Int),o,()))
  (λa=>Int.toNat (l.length-a.2.1)) (λr=>r.1=false/\r.2.2.2.1=decX l)
  (by
   rintro a ⟨i,o,hi,ho,hd,rfl⟩;have w1:IntKind.wrap .i64 (((4*i:Nat):Int)+1)=((4*i+1:Nat):Int):=by rw[wrap_i64 _ (by omega) (by omega)];omega
   have w2:IntKind.wrap .i64 (((4*i:Nat):Int)+2)=((4*i+2:Nat):Int):=by rw[wrap_i64 _ (by omega) (by omega)];omega
   have w3:IntKind.wrap .i64 (((4*i:Nat):Int)+3)=((4*i+3:Nat):Int):=by rw[wrap_i64 _ (by omega) (by omega)];omega
   have w4:IntKind.wrap .i64 (((4*i:Nat):Int)+4)=((4*(i+1):Nat):Int):=by rw[wrap_i64 _ (by omega) (by omega)];omega
   by_cases hlt:4*i+4<=l.length
   ·left;have d:(decide (((4*(i+1):Nat):Int)<=iN l.length)&&decide (iN o.length<65536))=true:=by simp only[iN,Yb,Yj];omega
    have i0:Zf ((4*i:Nat):Int) l.length=true:=Zx.2 ⟨by omega,by omega⟩;have i1:Zf ((4*i+1:Nat):Int) l.length=true:=Zx.2 ⟨by omega,by omega⟩;have i2:Zf ((4*i+2:Nat):Int) l.length=true:=Zx.2 ⟨by omega,by omega⟩;have i3:Zf ((4*i+3:Nat):Int) l.length=true:=Zx.2 ⟨by omega,by omega⟩;have hb:∀a:INPT,Nat.ble (o++[a]).length most=true:=λa=>ZV (by simp;omega)
    rw[ZXL l (4*i) hlt] at hd;generalize hq0:R.get (R.int .u8) l ((4*i:Nat):Int)=q0 at hd;generalize hq1:R.get (R.int .u8) l ((4*i+1:Nat):Int)=q1 at hd;generalize hq2:R.get (R.int .u8) l ((4*i+2:Nat):Int)=q2 at hd;generalize hq3:R.get (R.int .u8) l ((4*i+3:Nat):Int)=q3 at hd;have hv:(Zbs (l,((4*i:Nat):Int),o,())).val=some (Go1.cont (l,((4*(i+1):Nat):Int),o++[inpX q0 q1 q2 q3],())):=by simp only[Zbs,RT.val,w1,w2,w3,w4,d,i0,i1,i2,i3,hb,hq0,hq1,hq2,hq3,ZaM,Zae,Yh,Yf,Yi,Yt,Ya,Yc,inpX];cases q3 !=Zfa q0 q1 q2<;>rfl
    refine⟨_,hv,⟨i+1,o++[inpX q0 q1 q2 q3],by omega,by simp;omega,?_,rfl⟩,by simp only;omega⟩;rw[<-hd];simp only[decX,Yp,List.cons_append,List.nil_append];rfl
   ·right;left;have d:(decide (((4*(i+1):Nat):Int)<=iN l.length)&&decide (iN o.length<65536))=false:=by simp only[iN,Yaa,Y6];left;omega
    refine⟨(l,((4*i:Nat):Int),o,()),by simp only[Zbs,RT.val,w4,d,Yc],rfl,?_⟩;rw[ZyI (l:=l.drop (4*i)) (by simp;omega),Y0] at hd
    exact hd)
  (l,0,[],()) ⟨0,[],by omega,rfl,by simp,rfl⟩ (by simp only;omega)
 obtain⟨r1,r2⟩:=r;simp only at h0 h1;subst h0;have hv:(Zfy l).val=some r2.2.2.1:=by simp only[Zfy,RT.val,hr,okB,getO,Ya]
 simp only[ZaB,hv,getO];exact h1
theorem ZRB (b:BRDT) (s0:TC) (st:STT) (l r:List INPT):Zal b s0 st (l++r)=Zal b s0 (Zal b s0 st l) r:=YaF ..
theorem ZuN (b:BRDT) (s0:TC):∀(l:List INPT) (st:STT),∃t,(Zal b s0 st l).2.1=st.2.1++t/\t.length=l.length
 |[],st=>⟨[],by simp[Zal],rfl⟩
 |i::l,st=>by obtain⟨t,h,hl⟩:=ZuN b s0 l (Zcp b s0 st i);refine⟨(Z4 b st.1 i).2.1::t,?_,by simp[hl]⟩;show (Zal b s0 (Zcp b s0 st i) l).2.1=_;rw[h];show (st.2.1++[(Z4 b st.1 i).2.1])++t=_;simp
abbrev ZvS:List Sh:=[Sh.one (R.int u8),Sh.one (R.int u8),Sh.one (R.int u8)]
abbrev ZvT:Rs:=Rs.one (Sh.one (R.int u8))
def ZDb (a:Int) (b:Int) (c:Int):RT (Int):=
 .Lf (xorI u8 (xorI u8 (xorI u8 a b) c) 165)
def Zzs (a:Int) (b:Int) (c:Int):Int:=(ZDb a b c).val
def Zr6:En:=Zg ZvS ZvT (λ_=>none) (λa=>Zzs a.1 a.2.1 a.2.2)
theorem Zqn:Zb prog 128 Zr6:=
 pureQ 127 [] [] ZvS ZvT trivial Tryz.func128 Tryz.call128 trivial (t:=λa=>ZDb a.1 a.2.1 a.2.2)
abbrev ZC9:List Sh:=[]
abbrev ZDa:Rs:=Rs.one (Sh.agg Zbt)
def ZJy:RT INPT:=
 .Lf ((true,false,false,false,false,false,false,false,0,0))
def Zf7:INPT:=(ZJy).val
def Zzp:En:=Zg ZC9 ZDa (λ_=>none) (λa=>Zf7)
theorem ZvR:Zb prog 86 Zzp:=
 pureQ 1 [] [] ZC9 ZDa trivial Tryz.func86 Tryz.call86 trivial (t:=λa=>ZJy)
def Zfd:En:=.tree (Zr (envX prog [] [] 15 8) Tryz.f190)
theorem Zh6:Zb prog 190 Zfd:=ZL (P:=prog) (n:=15) (k:=8) (l:=[]) (ol:=[]) trivial Tryz.func190 rfl (by kernel_rfl) Tryz.call190 trivial
abbrev ZvP:List Sh:=[Sh.one (R.int u8)]
abbrev ZvQ:Rs:=Rs.one (Sh.agg Zbt)
def ZC8 (c:Int):RT INPT:=
 .Lf ((!andI u8 (shrI u8 c 0) 1==1,andI u8 (shrI u8 c 1) 1==1,andI u8 (shrI u8 c 2) 1==1,andI u8 (shrI u8 c 3) 1==1,andI u8 (shrI u8 c 4) 1==1,andI u8 (shrI u8 c 5) 1==1,andI u8 (shrI u8 c 6) 1==1,andI u8 (shrI u8 c 7) 1==1,0,0))
def ZaC (c:Int):INPT:=(ZC8 c).val
def Zr3:En:=Zg ZvP ZvQ (λ_=>none) (λa=>ZaC a)
theorem Zql:Zb prog 129 Zr3:=
 pureQ 15 [(190,Zfd)] [] ZvP ZvQ ⟨Zh6,Tv⟩ Tryz.func129 Tryz.call129 trivial (t:=λa=>ZC8 a)
abbrev Zhi:List Sh:=[Sh.one (R.sl (R.int u8))]
abbrev Zhj:Rs:=Rs.one (Sh.one (R.sl Zbt))
def Zzr:LS:={n:=44,Sl:=[(0,.code (Sh.one (R.sl (R.int u8)))),(3,.tip 0)],Bx:=[],Sg:=[⟨Zbt,122,true⟩]}
def ZcL (a:List Int×List INPT×PUnit):RT (Option (Go1 (List Int×List INPT×PUnit))):=
 let x1:=decide (0<=4)&&decide (4<=iN (List.length a.1))&&(decide (iN (List.length a.1)=0)||decide (iN (List.length a.1)<=iN (List.length a.1)))
 let x2:=Zzs (R.get (R.int u8) a.1 0) (R.get (R.int u8) a.1 (iN (0+1))) (R.get (R.int u8) a.1 (iN (0+1+1)))==R.get (R.int u8) a.1 (iN (0+1+1+1))
 let x3:List INPT:=a.2.1++[(bif x2 then (ZaC (R.get (R.int u8) a.1 0)).1 else Zf7.1,bif x2 then (ZaC (R.get (R.int u8) a.1 0)).2.1 else Zf7.2.1,bif x2 then (ZaC (R.get (R.int u8) a.1 0)).2.2.1 else Zf7.2.2.1,bif x2 then (ZaC (R.get (R.int u8) a.1 0)).2.2.2.1 else Zf7.2.2.2.1,bif x2 then (ZaC (R.get (R.int u8) a.1 0)).2.2.2.2.1 else Zf7.2.2.2.2.1,bif x2 then (ZaC (R.get (R.int u8) a.1 0)).2.2.2.2.2.1 else Zf7.2.2.2.2.2.1,bif x2 then (ZaC (R.get (R.int u8) a.1 0)).2.2.2.2.2.2.1 else Zf7.2.2.2.2.2.2.1,bif x2 then (ZaC (R.get (R.int u8) a.1 0)).2.2.2.2.2.2.2.1 else Zf7.2.2.2.2.2.2.2.1,bif x2 then R.get (R.int u8) a.1 (iN (0+1)) else Zf7.2.2.2.2.2.2.2.2.1,bif x2 then R.get (R.int u8) a.1 (iN (0+1+1)) else Zf7.2.2.2.2.2.2.2.2.2)]
 .br (decide (iN (List.length a.1)>=4)&&decide (iN (List.length a.2.1)<65536)) (.br (!Nat.ble 4 (List.length a.1)||(!x1||Nat.ble (List.length x3) most)) (.br (!Nat.ble 4 (List.length a.1)||x1) (.br (Nat.ble 4 (List.length a.1)) (.Lf (some (Go1.cont (subL a.1 4 (iN (List.length a.1)),x3,PUnit.unit)))) (.Lf none)) (.Lf none)) (.Lf none)) (.Lf (some (Go1.brk (a.1,a.2.1,PUnit.unit))))
def ZmP:Ora:=ZbI false Zzr ZcL (λa=>1000000000000)
theorem Zr4:Zbg (envX prog [(86,Zzp),(128,Zr6),(129,Zr3)] [] 63 8) (.block 0 (.loop (Z7 Tryz.f74.body 0))) ZmP:=
 loopP ⟨ZvR,Zqn,Zql,Tv⟩
def Zgu (l:List Int):RT (Option (List INPT)):=
 .br (okB (runF false ZcL (λa=>1000000000000) (l,[],()))) (.Lf (some (getO (false,l,[],()) (runF false ZcL (λa=>1000000000000) (l,[],()))).2.2.1)) (.Lf none)
def Zr5 (l:List Int):List INPT:=getO Zhj.Df (Zgu l).val
def ZmQ (l:List Int):Bool:=okB (Zgu l).val
def ZJz:En:=Zg Zhi Zhj (λa=>some (ZmQ a)) (λa=>Zr5 a)
theorem Zzq:Zb prog 74 ZJz:=
 pureP 63 [(86,Zzp),(128,Zr6),(129,Zr3)] [(0,ZmP)] Zhi Zhj ⟨ZvR,Zqn,Zql,Tv⟩ Tryz.func74 Tryz.call74 ⟨Zr4,Tv⟩ (t:=λa=>Zgu a)
theorem ZN2:(List.range 256).all (λc=>(List.all [(ZaC (c:Int)).1==(andI u8 (c:Int) 1==0),(ZaC (c:Int)).2.1==(andI u8 (c:Int) 2 !=0),(ZaC (c:Int)).2.2.1==(andI u8 (c:Int) 4 !=0),(ZaC (c:Int)).2.2.2.1==(andI u8 (c:Int) 8 !=0),
  (ZaC (c:Int)).2.2.2.2.1==(andI u8 (c:Int) 16 !=0),(ZaC (c:Int)).2.2.2.2.2.1==(andI u8 (c:Int) 32 !=0),(ZaC (c:Int)).2.2.2.2.2.2.1==(andI u8 (c:Int) 64 !=0),(ZaC (c:Int)).2.2.2.2.2.2.2.1==(andI u8 (c:Int) 128 !=0)] id))=true:=by kernel_rfl
theorem ZRu {c:Int} (h:inR .u8 c):(ZaC c).1=(andI u8 c 1==0)/\(ZaC c).2.1=(andI u8 c 2 !=0)/\(ZaC c).2.2.1=(andI u8 c 4 !=0)/\(ZaC c).2.2.2.1=(andI u8 c 8 !=0)/\
  (ZaC c).2.2.2.2.1=(andI u8 c 16 !=0)/\(ZaC c).2.2.2.2.2.1=(andI u8 c 32 !=0)/\(ZaC c).2.2.2.2.2.2.1=(andI u8 c 64 !=0)/\(ZaC c).2.2.2.2.2.2.2.1=(andI u8 c 128 !=0):=by rw[ZhV] at h;obtain⟨n,rfl⟩:∃n:Nat,c=(n:Int):=⟨c.toNat,by omega⟩;have:=YW.1 ZN2 n (by simp;omega);simpa [List.all_cons] using this
theorem dec4 (l:List Int) (h:4<=l.length):l=R.get (R.int .u8) l 0::R.get (R.int .u8) l 1::R.get (R.int .u8) l 2::R.get (R.int .u8) l 3::l.drop 4:=by have:=ZXL l 0 (by omega);rw[List.drop_zero] at this;exact this
theorem ZVN (h:∀x∈l,inR .u8 x) (i:Int):inR .u8 (R.get (R.int .u8) l i):=by
 unfold R.get;rw[Yq];cases hq:l[i.toNat]? with
 |none=>exact⟨by decide,by decide⟩
 |some a=>exact h a (List.mem_of_getElem? hq)
theorem sub4 (l:List Int):subL l 4 (iN l.length)=l.drop 4:=by
 simp only[subL,iN];have e1:((4:Int).toNat)=4:=rfl;have e2:((l.length:Int)-4).toNat=l.length-4:=by omega
 first
  |(rw[e1,e2];exact YZ (by simp))
  |(simp;exact YZ (by simp))
theorem Zqm (l:List Int) (hl:l.length<=4000) (hin:∀x∈l,inR .u8 x):ZmQ l=true/\Zr5 l=decX l:=by
 have hms:=mst;obtain⟨r,hr,h0,h1⟩:=ZC (fl:=false) (t:=ZcL) (fuel:=λ_=>1000000000000)
  (λa=>∃(q:List Int) (o:List INPT),q.length+4*o.length=l.length/\(∀x∈q,inR .u8 x)/\o++decX q=decX l/\a=(q,o,()))
  (λa=>a.1.length) (λr=>r.1=false/\r.2.2.1=decX l)
  (by
   rintro a ⟨q,o,hq,hi,hd,rfl⟩;by_cases hlt:4<=q.length
   ·left;have d:(decide (iN q.length>=4)&&decide (iN o.length<65536))=true:=by simp only[iN,Yb,Yj];omega
    have d1:decide (iN o.length<65536)=true:=by simp only[iN,Yj];omega
    have b4:Nat.ble 4 q.length=true:=by rw[YB];exact hlt
    have d4:decide (4<=iN q.length)=true:=by simp only[iN,Yj];omega
    have d0:decide ((0:Int)<=4)=true:=rfl;have dl:decide (iN q.length<=iN q.length)=true:=by simp
    have hb:∀a:INPT,Nat.ble (o++[a]).length most=true:=λa=>ZV (by simp;omega)
    have i1:iN (0+1)=(1:Int):=rfl;have i2:iN (0+1+1)=(2:Int):=rfl;have i3:iN (0+1+1+1)=(3:Int):=rfl;have hin0:=ZVN hi 0;have hdr:q=R.get (R.int .u8) q 0::R.get (R.int .u8) q 1::R.get (R.int .u8) q 2::R.get (R.int .u8) q 3::q.drop 4:=dec4 q hlt;rw[hdr] at hd;have hck:∀a b c,Zzs a b c=Zfa a b c:=λa b c=>rfl
    obtain⟨q0,hq0⟩:∃q0,R.get (R.int .u8) q 0=q0:=⟨_,rfl⟩;obtain⟨q1,hq1⟩:∃q0,R.get (R.int .u8) q 1=q0:=⟨_,rfl⟩;obtain⟨q2,hq2⟩:∃q0,R.get (R.int .u8) q 2=q0:=⟨_,rfl⟩;obtain⟨q3,hq3⟩:∃q0,R.get (R.int .u8) q 3=q0:=⟨_,rfl⟩;rw[hq0,hq1,hq2,hq3] at hd;rw[hq0] at hin0;have hv:(ZcL (q,o,())).val=some (Go1.cont (q.drop 4,o++[inpX q0 q1 q2 q3],())):=by
     obtain⟨e1,e2,e3,e4,e5,e6,e7,e8⟩:=ZRu hin0;simp only[ZcL,RT.val,d,b4,d0,d4,dl,hb,i1,i2,i3,hq0,hq1,hq2,hq3,hck,sub4,e1,e2,e3,e4,e5,e6,e7,e8,ZaM,Zae,Yh,Yf,Yi,Yt,YQ,YK,Ya,Yc];have hcm:(q3==Zfa q0 q1 q2)=(Zfa q0 q1 q2==q3):=Bool.eq_iff_iff.2 ⟨λh=>Yax.2 (Yax.1 h).symm,λh=>Yax.2 (Yax.1 h).symm⟩;have hne:(q3 !=Zfa q0 q1 q2)= !(Zfa q0 q1 q2==q3):=by rw[bne,hcm]
     have hs:Zf7=ZI:=rfl;unfold inpX;rw[hne];generalize (Zfa q0 q1 q2==q3)=bb;cases bb
     ·simp only[d1,Ya,Yc,Yf,Ym,hs];rfl
     ·simp only[d1,Ya,Yc,Yf,Ym];rfl
    refine⟨_,hv,⟨q.drop 4,o++[inpX q0 q1 q2 q3],by simp;omega,λx hx=>hi x (Yat hx),?_,rfl⟩,by simp;omega⟩;rw[<-hd];simp only[decX,Yp,List.cons_append,List.nil_append]
   ·right;left;have d:(decide (iN q.length>=4)&&decide (iN o.length<65536))=false:=by simp only[iN,Yaa,Y6];left;omega
    refine⟨(q,o,()),by simp only[ZcL,RT.val,d,Yc],rfl,?_⟩;rw[ZyI (by omega),Y0] at hd
    exact hd)
  (l,[],()) ⟨l,[],by simp,hin,by simp,rfl⟩ (by simp only;omega)
 obtain⟨r1,r2⟩:=r;simp only at h0 h1;subst h0;have hv:(Zgu l).val=some r2.2.1:=by simp only[Zgu,RT.val,hr,okB,getO,Ya]
 exact⟨by simp only[ZmQ,hv];rfl,by simp only[Zr5,hv,getO];exact h1⟩
theorem dec_in {a:List Int} (h:okHL Zhi a):∀x∈a,inR .u8 x:=h.2
def Zzw (l:List Int):Bool:=Nat.ble l.length 4000
def Zj5:En:=Zg Zhi Zhj (λa=>some (Zzw a)) (λa=>decX a)
theorem Zk5:Zb Tryz.prog 74 Zj5:=Zzq.pure_congr
 (λa h hp=>by
  have hl:a.length<=4000:=by simpa [Zzw] using hp
  have h1:=(Zqm a hl (dec_in h)).1
  simp[h1])
 (λa h hp=>by
  have hl:a.length<=4000:=by simpa [Zzw] using hp
  exact (Zqm a hl (dec_in h)).2)
end
end Go.Proofs.YtpnjbfjomebppaaGreat
