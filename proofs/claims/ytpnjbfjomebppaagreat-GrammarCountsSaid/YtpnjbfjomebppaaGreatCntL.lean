import Derived.Test.YtpnjbfjomebppaaGreatTraL
open Go.Proofs.Tryz (prog)
open Go.IntKind (u8 u16 i64)
set_option linter.unusedSimpArgs false
open Go Go.S3 Go.Proofs
set_option linter.unusedVariables false
set_option maxRecDepth 100000
namespace Go.Proofs.YtpnjbfjomebppaaGreat
noncomputable section
def Zci:En:=.tree (ZaH (envX prog [] [] 7 8) Tryz.f31)
theorem Zc0:Zd prog 31 Zci:=Zb3 (P:=prog) (n:=7) (k:=8) (l:=[]) (ol:=[]) trivial Tryz.func31 rfl (by kernel_rfl) Tryz.call31 trivial
abbrev Zal:R:=R.Pq (R.int i64) (R.Pq (RY) (R.Pq (R.int i64) (R.Pq (R.int i64) (R.Pq R.bool R.bool))))
abbrev Zam:Nat:=70
abbrev ZwQ:List Sh:=[Sh.one (R.sl (R.int i64))]
def ZI5:LS:={n:=65,Sl:=[(3,.fix (A.loc 0 0)),(4,.tip 0),(5,.code (Sh.one (R.int i64)))],Bx:=[[.code (.sl (R.int i64)),.code (.int i64)]],Sg:=[⟨Z0,70,false⟩]}
def ZfQ (a:QT21):RT (Option (Go1 (QT21))):=
 let x1:List Int:=[1,1,1,2,3,4,0,5]
 let x2:=Ze (Zb (a.2.1,a.2.2.1) 8).1 (List.length x1)
 let x3:= !x2
 let x4:= !Zj (Zb (a.2.1,a.2.2.1) 8).2 6
 let x5:Int:=(Zb (Zb (a.2.1,a.2.2.1) 8).2 6).1
 let x6:List Int:=[0,0,0,1,3,-1]
 let x7:=Ze x5 (List.length x6)
 let x8:= !x7
 let p2:=x8::x4::x3::(!Zj (a.2.1,a.2.2.1) 8)::[]
 let x9:List Int×Int:=(Zb (Zb (a.2.1,a.2.2.1) 8).2 6).2
 let x10:=Zj x9 8
 let x11:= !x10
 let p4:=x11::p2
 let x12:=Zb x9 8
 let x13:=x12.2
 let x14:=ZaS x13
 let p6:=(!x14)::p4
 let x15:=Z6 x13
 let x16:=x15.2
 let x17:=orR p6 (ZaS x16)
 let x18:= !x17
 let x19:=orR p4 x14
 let x20:= !x19
 let x21:=orR p2 x10
 let x22:= !x21
 let x23:= !Zj (a.2.1,a.2.2.1) 8||(x3||(x4||x7))
 let x24:= !x23
 let p1:=x24::x22::x20::x18::[]
 let x25:= !Zj (a.2.1,a.2.2.1) 8||(x3||Zj (Zb (a.2.1,a.2.2.1) 8).2 6)
 let x26:= !x25
 let p3:=x26::p1
 let x27:= !Zj (a.2.1,a.2.2.1) 8||x2
 let x28:= !x27
 let p5:=x28::p3
 let p7:=(!Zj (a.2.1,a.2.2.1) 8)::p5
 let x29:=Z6 x16
 let x30:=x29.2
 let x31:=Zj x30 14
 let x32:= !x31
 let x33:=Zb x30 14
 let x34:=x33.2
 let x35:=Zea x34
 let x36:= !x35
 let x37:=Zbg x34
 let x38:=x37.2
 let x39:=ZeM x38
 let x40:=Zcb x38
 let x41:=x40.2
 let x42:=x32||(x36||(!x39||Zj x41 8))
 let x43:= !x42
 let p8:=x43::p7
 let x44:=x32||(x36||x39)
 let x45:= !x44
 let p9:=x45::p8
 let x46:=x32||x35
 let x47:= !x46
 let p10:=x47::p9
 let p11:=x32::p10
 let x48:=Zb x41 8
 let x49:=x48.2
 let x50:=Zj x49 3
 let x51:= !x50
 let p12:=x51::p11
 let x52:=Zb x49 3
 let x53:Int:=R.get (R.int i64) x1 (Zb (a.2.1,a.2.2.1) 8).1
 let x54:=decide (x52.1>0)&&x53==1
 let x55:=x52.2
 let x56:= !x54||Zj x55 4
 let p13:=(!x56)::p12
 let x57:=Zb x55 4
 let x58:=i64.wrap (3+x57.1)
 let x59:List ITMT:=a.2.2.2.1++[(x53,(x33.1,x37.1,x40.1,bif x54 then x58 else x48.1),R.get (R.int i64) x6 x5,bif x54 then x58 else i64.wrap (x12.1-1),x15.1,x29.1)]
 let x60:=x57.2
 .br (decide (a.1>0)) (.br (orR p13 (Nat.ble (List.length x59) most)) (.br (orR p12 x56) (.br (orR p11 x50) (.br (orR p10 x31) (.br (orR p9 x46) (.br (orR p8 x44) (.br (orR p7 x42) (.br (orR p5 (Zj (a.2.1,a.2.2.1) 8)) (.br (orR p3 x27) (.br (orR p1 x25) (.br (x18||(x20||(x22||x23))) (.br (x18||(x20||x21)) (.br (x18||x19) (.br (x17) (.Lf (some (Go1.cont (i64.wrap (a.1-1),bif x54 then x60.1 else x55.1,bif x54 then x60.2 else x55.2,x59,PUnit.unit)))) (.Lf none)) (.Lf none)) (.Lf none)) (.Lf none)) (.Lf none)) (.Lf none)) (.Lf none)) (.Lf none)) (.Lf none)) (.Lf none)) (.Lf none)) (.Lf none)) (.Lf none)) (.Lf none)) (.Lf (some (Go1.brk (a.1,a.2.1,a.2.2.1,a.2.2.2.1,PUnit.unit))))
def ZzQ:Ora:=ZcQ false ZI5 ZfQ (λa=>20)
theorem ZCb:Zb6 (envX prog [(31,Zci),(68,ZbL),(69,Zzu),(70,Zs1),(71,ZlA)] [] 127 8) (.block 0 (.loop (ZaU Tryz.f16.body 0))) ZzQ:=
 loopP ⟨Zc0,Zau,Zqa,Zjq,ZfO,Tv⟩
def Ztt (n:List Int):RT (Option (List ITMT)):=
 let x1:QT21:=((Zb (n,0) 12).1,(Zb (n,0) 12).2.1,(Zb (n,0) 12).2.2,[],())
 let x2:=runF false ZfQ (λa=>20) x1
 .br (Zj (n,0) 12) (.br (okB x2) (.Lf (some (getO (false,x1) x2).2.2.2.2.1)) (.Lf none)) (.Lf none)
def ZbO (n:List Int):List ITMT:=getO [] (Ztt n).val
def Ztu (n:List Int):Bool:=okB (Ztt n).val
def ZKQ:En:=frzE (newE Zal Zam ZwQ (λa=>some (Ztu a)) (λa=>ZbO a))
theorem ZGw:Zd prog 16 (newE Zal Zam ZwQ (λa=>some (Ztu a)) (λa=>ZbO a)):=
 Zhj (P:=prog) (n:=127) (k:=8) (l:=[(31,Zci),(68,ZbL),(69,Zzu),(70,Zs1),(71,ZlA)]) (ol:=[(0,ZzQ)]) ⟨Zc0,Zau,Zqa,Zjq,ZfO,Tv⟩ Tryz.func16 rfl (by kernel_rfl) Tryz.call16 ⟨ZCb,Tv⟩ (r:=Zal) (T:=Zam) (ts:=ZwQ) (t:=λa=>Ztt a) (λa=>by kernel_rfl)
theorem ZI4:Zd prog 16 ZKQ:=ZnB ZGw
abbrev ZmY:List Sh:=[Sh.one (R.sl Z0)]
abbrev Zh1:Rs:=Rs.tup [Sh.one (R.int i64),Sh.one (R.int i64),Sh.one (R.int i64),Sh.one (R.int i64),Sh.one (R.int i64)]
def ZuU:LS:={n:=52,Sl:=[(2,.code (Sh.one (R.int i64))),(3,.code (Sh.one (R.int i64))),(4,.code (Sh.one (R.int i64))),(5,.code (Sh.one (R.int i64))),(6,.code (Sh.one (R.int i64))),(10,.code (Sh.one (R.sl Z0))),(11,.code (Sh.one (R.int i64))),(12,.code (Sh.one (R.int i64)))],Bx:=[],Sg:=[]}
def Zgn (a:QT10):RT (Option (Go1 (QT10))):=
 let x1:ITMT:=R.get Z0 a.2.2.2.2.2.1 a.2.2.2.2.2.2.2.1
 let x2:=x1.1
 let x3:=x1.2.2
 let x4:=x3.2.1
 let x5:Int:=if 0>x4 then 0 else x4
 let x6:=x3.1
 let x7:List ITMT×Int×Int×PUnit:=(a.2.2.2.2.2.1,a.2.2.2.2.2.2.1,i64.wrap (a.2.2.2.2.2.2.2.1+1),PUnit.unit)
 let x8:Int×List ITMT×Int×Int×PUnit:=(a.2.2.2.2.1,x7)
 let x9:Int×Int×List ITMT×Int×Int×PUnit:=(a.2.2.2.1,x8)
 .br (decide (a.2.2.2.2.2.2.2.1<a.2.2.2.2.2.2.1)) (.br (Ze a.2.2.2.2.2.2.2.1 (List.length a.2.2.2.2.2.1)) (.br (x2==1) (.Lf (some (Go1.cont (i64.wrap (a.1+x5),i64.wrap (a.2.1+if 0>x6 then 0 else x6),a.2.2.1,x9)))) (.br (x2==2) (.Lf (some (Go1.cont (a.1,a.2.1,i64.wrap (a.2.2.1+x5),x9)))) (.br (x2==3) (.Lf (some (Go1.cont (a.1,a.2.1,a.2.2.1,i64.wrap (a.2.2.2.1+x5),x8)))) (.Lf (some (Go1.cont (a.1,a.2.1,a.2.2.1,a.2.2.2.1,bif x2==4 then i64.wrap (a.2.2.2.2.1+x5) else a.2.2.2.2.1,x7))))))) (.Lf none)) (.Lf (some (Go1.brk (a.1,a.2.1,a.2.2.1,a.2.2.2.1,a.2.2.2.2.1,a.2.2.2.2.2.1,a.2.2.2.2.2.2.1,a.2.2.2.2.2.2.2.1,PUnit.unit))))
def Zj8:Ora:=ZcQ false ZuU Zgn (λa=>1000000000000)
theorem Zov:Zb6 (envX prog [] [] 2269892314111 8) (.block 0 (.loop (ZaU Tryz.f18.body 0))) Zj8:=
 loopP trivial
def Ze1 (l:List ITMT):RT (Option (QT24)):=
 let x1:QT10:=(0,0,0,0,0,l,iN (List.length l),0,())
 let x2:=runF false Zgn (λa=>1000000000000) x1
 let x3:QT10:=(getO (false,x1) x2).2
 let x4:=x3.2
 let x5:=x4.2
 let x6:=x5.2
 .br (okB x2) (.Lf (some ((x3.1,x4.1,x5.1,x6.1,x6.2.1)))) (.Lf none)
def Z9 (l:List ITMT):QT24:=getO Zh1.Df (Ze1 l).val
def ZaR (l:List ITMT):Bool:=okB (Ze1 l).val
def ZrM:En:=Zi ZmY Zh1 (λa=>some (ZaR a)) (λa=>Z9 a)
theorem ZuT:Zd prog 18 ZrM:=
 pureP 2269892314111 [] [(0,Zj8)] ZmY Zh1 trivial Tryz.func18 Tryz.call18 ⟨Zov,Tv⟩ (t:=λa=>Ze1 a)
abbrev ZrF:List Sh:=[Sh.one (R.int i64),Sh.one (R.sl Z0)]
abbrev Zj5:Rs:=Rs.one (Sh.one R.bool)
def ZAD:LS:={n:=137,Sl:=[(1,.code (Sh.one (R.sl Z0))),(4,.code (Sh.one R.bool)),(9,.code (Sh.one (R.sl Z0))),(10,.code (Sh.one (R.int i64))),(11,.code (Sh.one (R.int i64)))],Bx:=[],Sg:=[]}
def Zbw (a:List ITMT×Bool×List ITMT×Int×Int×PUnit):RT (Option (Go1 (List ITMT×Bool×List ITMT×Int×Int×PUnit))):=
 let x1:ITMT:=R.get Z0 a.2.2.1 a.2.2.2.2.1
 let x2:=x1.1
 let x3:=x2==1
 let x4:=x1.2
 let x5:=x4.1
 let x6:=x5.2.2.2
 let x7:=x4.2
 let x8:=x7.2
 let x9:=x8.1
 let x10:=decide (x9<1)
 let x11:=x7.1
 let x12:=decide (x11<0)
 let p3:=x12::(decide (x9>x6))::x10::(decide (x6>6))::(decide (x6<3))::[]
 let x13:=decide (x11>0)
 let x14:=orR p3 (x13&&(decide (x9<2)|| !Zk x5.1))
 let x15:=decide (x9<x6)
 let x16:= !a.2.2.2.2.1==i64.wrap (iN (List.length a.1)-1)
 let p5:=(!x16)::(!x15)::x14::(!x3)::(!Ze a.2.2.2.2.1 (List.length a.2.2.1))::[]
 let x17:List ITMT×Int×Int×PUnit:=(a.2.2.1,a.2.2.2.1,a.2.2.2.2.1,PUnit.unit)
 let x18:=x2==2
 let x19:=x2==3
 let x20:=bif x18 then x18 else bif x19 then x19 else x2==4
 let x21:= !x20
 let x22:=x10||(x12||x13)
 let x23:=Ze (i64.wrap (a.2.2.2.2.1-1)) (List.length a.1)
 let x24:= !x23
 let x25:ITMT:=R.get Z0 a.1 (i64.wrap (a.2.2.2.2.1-1))
 let x26:=x25.1==x2
 let x27:= !x26
 let x28:=x25.2.2.2.2
 let x29:=x8.2
 let x30:=x28.1==x29.1
 let p2:=(!x30)::x24::x27::x24::(!decide (a.2.2.2.2.1>0))::[]
 let x31:=orR p2 x23
 let x32:= !x31
 let x33:= !decide (a.2.2.2.2.1>0)||(x24||(x27||x23))
 let p4:=(!decide (a.2.2.2.2.1>0))::(!x33)::x32::x22::x21::[]
 let x34:=orR p4 x23
 let x35:= !x34
 let x36:=x21||(x22||(x32||x33))
 let p1:=x22::x21::(!x36)::x35::[]
 .br (decide (a.2.2.2.2.1<a.2.2.2.1)) (.br (orR p5 (Ze (i64.wrap (a.2.2.2.2.1+1)) (List.length a.1))) (.br (Ze a.2.2.2.2.1 (List.length a.2.2.1)) (.br (x3) (.br (x14) (.Lf (some (Go1.ret (a.1,false,x17)))) (.br (x15&&(x16&&(R.get Z0 a.1 (i64.wrap (a.2.2.2.2.1+1))).1 !=4)) (.Lf (some (Go1.ret (a.1,false,x17)))) (.Lf (some (Go1.cont (a.1,a.2.1,a.2.2.1,a.2.2.2.1,i64.wrap (a.2.2.2.2.1+1),PUnit.unit)))))) (.br (orR p1 x31) (.br (x35||x36) (.br (x34) (.br (x20) (.br (x22) (.Lf (some (Go1.ret (a.1,false,x17)))) (.br (decide (a.2.2.2.2.1>0)&&(x26&&(x30&&x28.2==x29.2))) (.Lf (some (Go1.ret (a.1,false,x17)))) (.Lf (some (Go1.cont (a.1,a.2.1,a.2.2.1,a.2.2.2.1,i64.wrap (a.2.2.2.2.1+1),PUnit.unit)))))) (.Lf (some (Go1.ret (a.1,false,x17))))) (.Lf none)) (.Lf none)) (.Lf none))) (.Lf none)) (.Lf none)) (.Lf (some (Go1.brk (a.1,a.2.1,x17))))
def ZmV:Ora:=ZcQ true ZAD Zbw (λa=>1000000000000)
theorem ZrG:Zb6 (envX prog [(58,Zhc)] [] 19342813113834066803687935 8) (.block 0 (.loop (ZaU Tryz.f20.body 0))) ZmV:=
 loopP ⟨Zgp,Tv⟩
def ZgX (k:Int) (l:List ITMT):RT (Option (Bool)):=
 let x1:=runF true Zbw (λa=>1000000000000) (l,false,l,iN (List.length l),0,())
 let x2:=getO (false,l,false,l,iN (List.length l),0,()) x1
 .br (okB x1) (.br x2.1 (.Lf (some x2.2.2.1)) (.Lf (some (true)))) (.Lf none)
def ZhX (k:Int) (l:List ITMT):Bool:=getO Zj5.Df (ZgX k l).val
def Zfz (k:Int) (l:List ITMT):Bool:=okB (ZgX k l).val
def Zx5:En:=Zi ZrF Zj5 (λa=>some (Zfz a.1 a.2)) (λa=>ZhX a.1 a.2)
theorem ZAC:Zd prog 20 Zx5:=
 pureP 19342813113834066803687935 [(58,Zhc)] [(0,ZmV)] ZrF Zj5 ⟨Zgp,Tv⟩ Tryz.func20 Tryz.call20 ⟨ZrG,Tv⟩ (t:=λa=>ZgX a.1 a.2)
abbrev ZGo:List Sh:=[Sh.one (R.int i64),Sh.one (R.sl Z0),Sh.one (R.sl (R.int i64))]
abbrev ZwP:Rs:=Rs.one (Sh.one R.bool)
def Znv (k:Int) (l:List ITMT) (n:List Int):RT (Option (Bool)):=
 let p3:=((Zav l).2.2.2.2 !=(Z9 l).2.2.2.2)::((Zav l).2.2.2.1 !=(Z9 l).2.2.2.1)::((Zav l).2.2.1 !=(Z9 l).2.2.1)::((Zav l).2.1 !=(Z9 l).2.1)::((Zav l).1 !=(Z9 l).1)::[]
 let x1:=orR p3 (Zgw k l)
 let p6:=((Zav l).2.2.2.2 !=(Z9 l).2.2.2.2)::((Zav l).2.2.2.1 !=(Z9 l).2.2.2.1)::((Zav l).2.2.1 !=(Z9 l).2.2.1)::((Zav l).2.1 !=(Z9 l).2.1)::((Zav l).1 !=(Z9 l).1)::(!x1)::[]
 let x2:=orR p6 (Zfz k l)
 let x3:= !Zap l||(!ZaR l||(!x2||x1))
 let x4:= !x3
 let x5:= !Zap l||(!ZaR l||x2)
 let x6:= !x5
 let x7:=orR p3 (!Zny k l==ZhX k l)
 let p1:=x7::(!Zap l)::(!(!Zap l||ZaR l))::x6::x4::[]
 let x8:=(Zav (Stg.l (newG Zal Zam (ZbO n)))).1 !=(Z9 (Stg.l (newG Zal Zam (ZbO n)))).1
 let x9:=(Zav (Stg.l (newG Zal Zam (ZbO n)))).2.1 !=(Z9 (Stg.l (newG Zal Zam (ZbO n)))).2.1
 let x10:=(Zav (Stg.l (newG Zal Zam (ZbO n)))).2.2.1 !=(Z9 (Stg.l (newG Zal Zam (ZbO n)))).2.2.1
 let x11:=(Zav (Stg.l (newG Zal Zam (ZbO n)))).2.2.2.1 !=(Z9 (Stg.l (newG Zal Zam (ZbO n)))).2.2.2.1
 let x12:=(Zav (Stg.l (newG Zal Zam (ZbO n)))).2.2.2.2 !=(Z9 (Stg.l (newG Zal Zam (ZbO n)))).2.2.2.2
 let p4:=x12::x11::x10::x9::x8::[]
 let x13:=orR p4 (Zgw k (Stg.l (newG Zal Zam (ZbO n))))
 let p7:=x12::x11::x10::x9::x8::(!x13)::[]
 let x14:=orR p7 (Zfz k (Stg.l (newG Zal Zam (ZbO n))))
 let x15:= !Zap (Stg.l (newG Zal Zam (ZbO n)))||(!ZaR (Stg.l (newG Zal Zam (ZbO n)))||(!x14||x13))
 let x16:= !x15
 let p5:=x16::p1
 let x17:= !Zap (Stg.l (newG Zal Zam (ZbO n)))||(!ZaR (Stg.l (newG Zal Zam (ZbO n)))||x14)
 let x18:= !x17
 let p9:=x18::p5
 let x19:= !Zap (Stg.l (newG Zal Zam (ZbO n)))||ZaR (Stg.l (newG Zal Zam (ZbO n)))
 let x20:= !x19
 let p10:=x20::p9
 let x21:=orR p4 (!Zny k (Stg.l (newG Zal Zam (ZbO n)))==ZhX k (Stg.l (newG Zal Zam (ZbO n))))
 let p11:=x21::(!Zap (Stg.l (newG Zal Zam (ZbO n))))::p10
 let x22:=(Zav (ZaW n).2.2.1).1 !=(Z9 (ZaW n).2.2.1).1
 let x23:=(Zav (ZaW n).2.2.1).2.1 !=(Z9 (ZaW n).2.2.1).2.1
 let x24:=(Zav (ZaW n).2.2.1).2.2.1 !=(Z9 (ZaW n).2.2.1).2.2.1
 let x25:=(Zav (ZaW n).2.2.1).2.2.2.1 !=(Z9 (ZaW n).2.2.1).2.2.2.1
 let x26:=(Zav (ZaW n).2.2.1).2.2.2.2 !=(Z9 (ZaW n).2.2.1).2.2.2.2
 let p2:=x26::x25::x24::x23::x22::[]
 let x27:=orR p2 (Zgw k (ZaW n).2.2.1)
 let p8:=x26::x25::x24::x23::x22::(!x27)::[]
 let x28:=orR p8 (Zfz k (ZaW n).2.2.1)
 let x29:= !Zap (ZaW n).2.2.1||(!ZaR (ZaW n).2.2.1||(!x28||x27))
 let x30:= !x29
 let p12:=x30::p11
 let x31:= !Zap (ZaW n).2.2.1||(!ZaR (ZaW n).2.2.1||x28)
 let x32:= !x31
 let p13:=x32::p12
 let x33:= !Zap (ZaW n).2.2.1||ZaR (ZaW n).2.2.1
 let p14:=(!x33)::p13
 .br (!(decide (iN (List.length l)>60)||decide (iN (List.length n)>250))||ZGy) (.br (decide (iN (List.length l)>60)||decide (iN (List.length n)>250)) (.Lf (some (true))) (.br (Zqn n) (.br (Ztu n) (.br (orR p14 (Zap (ZaW n).2.2.1)) (.br (orR p13 x33) (.br (orR p12 x31) (.br (orR p11 x29) (.br (orR p10 (Zap (Stg.l (newG Zal Zam (ZbO n))))) (.br (orR p9 x19) (.br (orR p5 x17) (.br (orR p1 x15) (.br (x4||(x6||(!(!Zap l||ZaR l)||Zap l))) (.br (x4||(x6||(!Zap l||ZaR l))) (.br (x4||x5) (.br (x3) (.br (x7) (.Lf (some (false))) (.br (x21) (.Lf (some (false))) (.br (orR p2 (!Zny k (ZaW n).2.2.1==ZhX k (ZaW n).2.2.1)) (.Lf (some (false))) (.br (ZGy) (.Lf (some (true))) (.Lf none))))) (.Lf none)) (.Lf none)) (.Lf none)) (.Lf none)) (.Lf none)) (.Lf none)) (.Lf none)) (.Lf none)) (.Lf none)) (.Lf none)) (.Lf none)) (.Lf none)) (.Lf none)) (.Lf none))) (.Lf none)
def ZMz (k:Int) (l:List ITMT) (n:List Int):Bool:=getO ZwP.Df (Znv k l n).val
def ZGp (k:Int) (l:List ITMT) (n:List Int):Bool:=okB (Znv k l n).val
def ZN3:En:=Zi ZGo ZwP (λa=>some (ZGp a.1 a.2.1 a.2.2)) (λa=>ZMz a.1 a.2.1 a.2.2)
theorem lGCnt_ok:Zd prog 3 ZN3:=
 pureP 2097151 [(14,ZN7),(15,ZGv),(16,ZKQ),(17,Zqs),(18,ZrM),(19,ZwY),(20,Zx5)] [] ZGo ZwP ⟨ZMC,ZGu,ZI4,Znz,ZuT,ZtC,ZAC,Tv⟩ Tryz.func3 Tryz.call3 trivial (t:=λa=>Znv a.1 a.2.1 a.2.2)
def ZJB (y:ITMT):Prop:=y.2.2.2.1<=8/\y.2.2.1<=8
theorem ZwK (i:Int) (s1:List Int) (s2:Int) (acc:List ITMT) (k:Int) (hk:k<=1000) (h:NB (s1,s2) k) (h0:0<i) (h1:i<=12) (hl:acc.length<=100):
  ∃a',(ZfQ (i,s1,s2,acc,())).val=some (.cont a')/\a'.1=i-1/\NB (a'.2.1,a'.2.2.1) (k+13)/\∃y,a'.2.2.2.1=acc++[y]/\ZJB y:=by
 obtain⟨a1,a2,a3,a4⟩:=Zn h (by omega) 8 (by decide) (by decide);obtain⟨b1,b2,b3,b4⟩:=Zn a2 (by omega) 6 (by decide) (by decide);obtain⟨c1,c2,c3,c4⟩:=Zn b2 (by omega) 8 (by decide) (by decide);obtain⟨d1,d2⟩:=ZeA c2 (by omega);obtain⟨e1,e2⟩:=ZeA d2 (by omega);obtain⟨f1,f2,f3,f4⟩:=Zn e2 (by omega) 14 (by decide) (by decide);obtain⟨g1,g2,_⟩:=Zzp f2 (by omega);obtain⟨h1',h2,_⟩:=Zhp g2 (by omega);obtain⟨i1,i2,i3,i4⟩:=Zn h2 (by omega) 8 (by decide) (by decide);obtain⟨j1,j2,j3,j4⟩:=Zn i2 (by omega) 3 (by decide) (by decide);obtain⟨k1,k2,k3,k4⟩:=Zn j2 (by omega) 4 (by decide) (by decide);have r1:Ze (Zb (s1,s2) 8).1 8=true:=Zw.2 ⟨a3,by omega⟩;have r2:Ze (Zb (Zb (s1,s2) 8).2 6).1 6=true:=Zw.2 ⟨b3,by omega⟩;have w1:i64.wrap (i-1)=i-1:=Zv _ (by omega) (by omega);have hi:decide (i>0)=true:=by simp;omega
 have hble:∀y:ITMT,Nat.ble (acc++[y]).length most=true:=λy=>by rw[YU];simp[most];omega
 have hw:∀v:Int,0<=v->v<6->R.get (R.int i64) [0,0,0,1,3,-1] v<=8:=by
  intro v h0 h1;have:v=0\/v=1\/v=2\/v=3\/v=4\/v=5:=by omega
  rcases this with rfl|rfl|rfl|rfl|rfl|rfl<;>decide
 have hsh:∀(b:Bool) (p q:Int),p<=8->q<=8->(bif b then p else q)<=8:=λb p q h1 h2=>by cases b<;>assumption
 have hnb:∀(b:Bool) (p q:List Int×Int),NB p (k+13)->NB q (k+13)->NB (bif b then p.1 else q.1,bif b then p.2 else q.2) (k+13):=λb p q h1 h2=>by cases b<;>assumption
 have w2:i64.wrap ((Zb (Zb (Zb (s1,s2) 8).2 6).2 8).1-1)<=8:=by rw[Zv _ (by omega) (by omega)];omega
 have hw2:=hw _ b3 b4;simp only[ZfQ,RT.val,List.length_cons,List.length_nil,Yv,Nat.reduceAdd,r1,r2,a1,b1,c1,d1,e1,f1,g1,h1',i1,j1,k1,hi,w1,hble,orR,Ye,Yw,Yf,Yl,Yk,Yt,Ya];refine⟨_,rfl,rfl,?_,_,rfl,?_⟩
 ·exact hnb _ _ _ ⟨k2.1,Int.le_trans k2.2 (by omega)⟩ ⟨j2.1,Int.le_trans j2.2 (by omega)⟩
 ·exact⟨hsh _ _ _ (by rw[Zv _ (by omega) (by omega)];omega) w2,hw2⟩
theorem ZI3 (n:List Int):Ztu n=true/\(ZbO n).length<=12/\∀y∈ZbO n,ZJB y:=by
 obtain⟨a1,a2,a3,a4⟩:=Zn (s:=(n,0)) (k:=0) ⟨Int.le_refl _,Int.le_refl _⟩ (by decide) 12 (by decide) (by decide);obtain⟨r,hr,h1,h2,h3⟩:=Zat (fl:=false) (t:=ZfQ) (fuel:=λ_=>20)
  (λa=>0<=a.1/\a.1+(a.2.2.2.1.length:Int)<=12/\NB (a.2.1,a.2.2.1) (1+13*(a.2.2.2.1.length:Int))/\∀y∈a.2.2.2.1,ZJB y) (λa=>a.1.toNat)
  (λr=>r.1=false/\r.2.2.2.2.1.length<=12/\∀y∈r.2.2.2.2.1,ZJB y)
  (by
   rintro⟨i,s1,s2,acc,u⟩ ⟨p1,p2,p3,p4⟩;simp only at p1 p2 p3 p4;by_cases hi:0<i
   ·obtain⟨a',q1,q2,q3,y,q4,q5⟩:=ZwK i s1 s2 acc _ (by omega) p3 hi (by omega) (by omega);refine .inl ⟨a',q1,⟨by omega,?_,?_,?_⟩,by rw[q2];simp only;omega⟩
    ·rw[q2,q4];simp only[Yh,List.length_cons,List.length_nil];omega
    ·rw[q4];have e:1+13*(((acc++[y]).length:Nat):Int)=1+13*(acc.length:Int)+13:=by simp only[Yh,List.length_cons,List.length_nil];omega
     rw[e];exact q3
    ·rw[q4];intro z hz;rcases Y8.1 hz with hz|hz
     ·exact p4 z hz
     ·rw[Y5] at hz;rw[hz];exact q5
   ·have k1:decide (i>0)=false:=by simp;omega
    refine .inr (.inl ⟨(i,s1,s2,acc,()),?_,rfl,by simp only;omega,p4⟩)
    simp only[ZfQ,RT.val,k1,Yb])
  ((Zb (n,0) 12).1,(Zb (n,0) 12).2.1,(Zb (n,0) 12).2.2,[],()) ⟨a3,by simp only[List.length_nil];omega,by simpa using a2,λy hy=>by cases hy⟩ (by simp only;omega)
 have hv:(Ztt n).val=some r.2.2.2.2.1:=by simp only[Ztt,RT.val,a1,hr,okB,getO,Ya]
 refine⟨by simp only[Ztu,hv,okB],?_⟩;have e:ZbO n=r.2.2.2.2.1:=by simp only[ZbO,hv,getO]
 rw[e];exact⟨h2,h3⟩
theorem Zrm {α:Type} {f:α->Option (Go1 α)} {st out:Nat->α} {bad:Nat->Bool} {n:Nat} (hs:∀i,i<n->f (st i)=some (bif bad i then .ret (out i) else .cont (st (i+1)))) (he:f (st n)=some (.brk (st n))):
  ∀(k i m:Nat),i+k=n->k<m->∃r,runL f m (st i)=some r/\((r.1=true/\(∃j,i<=j/\j<n/\bad j=true/\r.2=out j))\/(r.1=false/\r.2=st n/\∀j,i<=j->j<n->bad j=false))
 |0,i,m,hi,hm=>by
  obtain⟨m',rfl⟩:∃m',m=m'+1:=⟨m-1,by omega⟩;have:i=n:=by omega
  subst this;exact⟨(false,st i),by simp[runL,he],.inr ⟨rfl,rfl,λj h1 h2=>by omega⟩⟩
 |k+1,i,m,hi,hm=>by
  obtain⟨m',rfl⟩:∃m',m=m'+1:=⟨m-1,by omega⟩;cases hb:bad i with
  |true=>exact⟨(true,out i),by simp[runL,hs i (by omega),hb],.inl ⟨rfl,i,Yd _,by omega,hb,rfl⟩⟩
  |false=>
   obtain⟨r,h1,h2⟩:=Zrm hs he k (i+1) m' (by omega) (by omega);refine⟨r,by simp[runL,hs i (by omega),hb,h1],?_⟩;rcases h2 with ⟨q1,j,q2,q3,q4,q5⟩|⟨q1,q2,q3⟩
   ·exact .inl ⟨q1,j,by omega,q3,q4,q5⟩
   ·refine .inr ⟨q1,q2,λj h1 h2=> ?_⟩;by_cases e:j=i
    ·subst e;exact hb
    ·exact q3 j (by omega) h2
def at_ (l:List ITMT) (i:Int):ITMT:=R.get Z0 l i
def ZLu (y z:ITMT):Bool:=z.1==y.1&&(z.2.2.2.2.1==y.2.2.2.2.1&&z.2.2.2.2.2==y.2.2.2.2.2)
def badI (l:List ITMT) (i:Nat):Bool:=
 let y:=at_ l (i:Int)
 bif y.1==1 then !ZCg y (decide (i+1=l.length)||(at_ l ((i:Int)+1)).1==4)
 else bif y.1==2||(y.1==3||y.1==4) then (decide (y.2.2.2.1<1)||y.2.2.1 !=0)||(decide ((i:Int)>0)&&ZLu y (at_ l ((i:Int)-1)))
 else true
theorem Ztr (l:List ITMT) (i:Nat):((i:Int)+1==iN l.length)=decide (i+1=l.length):=by rw[Bool.eq_iff_iff];simp only[beq_iff_eq,YF,iN];omega
theorem ZN2 (l:List ITMT) (i:Nat) (h:i<l.length) (hl:l.length<=1000000):((i:Int)==i64.wrap (iN l.length-1))=decide (i+1=l.length):=by rw[Zv _ (by simp only[iN];omega) (by simp only[iN];omega),Bool.eq_iff_iff];simp only[beq_iff_eq,YF,iN];omega
theorem rep0 (y:ITMT):((gRep y).1==0)= !(y.1==2||(y.1==3||y.1==4)):=by
 simp only[gRep,ZtG,RT.val];by_cases h2:y.1=2
 ·simp[h2]
 by_cases h3:y.1=3
 ·simp[h3]
 by_cases h4:y.1=4
 ·simp[h4]
 have e2:(y.1==2)=false:=by simpa using h2
 have e3:(y.1==3)=false:=by simpa using h3
 have e4:(y.1==4)=false:=by simpa using h4
 rw[e2,e3,e4];rfl
theorem gstep (l:List ITMT) (hl:l.length<=1000000) (i:Nat) (hi:i<l.length):
  (ZbP (l,false,l,iN l.length,(i:Int),())).val=some (bif badI l i then .ret (l,false,l,iN l.length,(i:Int),()) else .cont (l,false,l,iN l.length,((i+1:Nat):Int),())):=by
 have k1:decide ((i:Int)<iN l.length)=true:=by simp[iN];omega
 have k2:Ze (i:Int) l.length=true:=Zw.2 ⟨by omega,by omega⟩;have k3:i64.wrap ((i:Int)+1)=(i:Int)+1:=Zv _ (by omega) (by omega);have k4:i64.wrap ((i:Int)-1)=(i:Int)-1:=Zv _ (by omega) (by omega);have kc:((i+1:Nat):Int)=(i:Int)+1:=by omega
 have k5:(decide (i+1=l.length)||Ze ((i:Int)+1) l.length)=true:=by
  by_cases he:i+1=l.length
  ·simp[he]
  ·have:Ze ((i:Int)+1) l.length=true:=Zw.2 ⟨by omega,by omega⟩;rw[this];simp
 have kp:decide ((i:Int)>0)=true->Ze ((i:Int)-1) l.length=true:=λh0=>Zw.2 ⟨by simp at h0;omega,by omega⟩
 obtain⟨y,hy⟩:∃y,R.get Z0 l (i:Int)=y:=⟨_,rfl⟩;have hy':at_ l (i:Int)=y:=hy;unfold badI;simp only[hy',kc];unfold at_ ZLu;cases e1:y.1==1
 ·cases ep:decide ((i:Int)>0)
  ·simp only[ZbP,RT.val,k1,k2,k3,k4,Ztr,k5,hy,e1,ep,rep0,ZaN,Zad,Yf,Yl,Yt,Ye,Yk,Yw,YL,YO,YD,YP,Ya,Yb];cases (y.1==2||(y.1==3||y.1==4))<;>cases decide (y.2.2.2.1<1)<;>cases y.2.2.1 !=0<;>rfl
  ·have k6:=kp ep;simp only[ZbP,RT.val,k1,k2,k3,k4,Ztr,k5,k6,hy,e1,ep,rep0,ZaN,Zad,Yf,Yl,Yt,Ye,Yk,Yw,YL,YO,YD,YP,Ya,Yb];generalize ((R.get Z0 l ((i:Int)-1)).1==y.1)=s1;generalize ((R.get Z0 l ((i:Int)-1)).2.2.2.2.1==y.2.2.2.2.1)=s2;generalize ((R.get Z0 l ((i:Int)-1)).2.2.2.2.2==y.2.2.2.2.2)=s3;cases (y.1==2||(y.1==3||y.1==4))<;>cases decide (y.2.2.2.1<1)<;>cases y.2.2.1 !=0<;>cases s1<;>cases s2<;>cases s3<;>rfl
 ·cases hf:ZCg y (decide (i+1=l.length)||(R.get Z0 l ((i:Int)+1)).1==4)
  ·simp only[ZbP,RT.val,k1,k2,k3,k4,Ztr,k5,hy,e1,hf,ZaN,Zad,Yf,Yl,Yt,Ye,Yk,Yw,YL,YO,YD,YP,Ya,Yb]
  ·cases ep:decide ((i:Int)>0)
   ·simp only[ZbP,RT.val,k1,k2,k3,k4,Ztr,k5,hy,e1,hf,ep,ZaN,Zad,Yf,Yl,Yt,Ye,Yk,Yw,YL,YO,YD,YP,Ya,Yb]
   ·have k6:=kp ep;simp only[ZbP,RT.val,k1,k2,k3,k4,Ztr,k5,k6,hy,e1,hf,ep,ZaN,Zad,Yf,Yl,Yt,Ye,Yk,Yw,YL,YO,YD,YP,Ya,Yb]
theorem ZM9 (w:Int):(decide (w<0)||decide (w>0))=(w !=0):=by rw[Bool.eq_iff_iff];simp;omega
theorem ZOe (y:ITMT) (f:Bool):(orR [decide (y.2.2.1<0),decide (y.2.2.2.1>y.2.1.2.2.2),decide (y.2.2.2.1<1),decide (y.2.1.2.2.2>6),decide (y.2.1.2.2.2<3)] (decide (y.2.2.1>0)&&(decide (y.2.2.2.1<2)|| !Zk y.2.1.1))||(decide (y.2.2.2.1<y.2.1.2.2.2)&& !f))= !ZCg y f:=by
 have ha:pAcc y.2.1.1=Zk y.2.1.1:=accG _;simp only[ZCg,ZGQ,RT.val,ha,ZaN,Zad];generalize Zk y.2.1.1=a;generalize y.2.1.2.2.2=s;generalize y.2.2.2.1=n;generalize y.2.2.1=w;by_cases h1:s<3
 ·simp[h1]
 by_cases h2:s>6
 ·simp[h2]
 by_cases h3:n<1
 ·simp[h3]
 by_cases h4:n>s
 ·simp[h4]
 have e4:(n !=s)=decide (n<s):=by rw[Bool.eq_iff_iff];simp;omega
 by_cases h5:w<0
 ·cases f<;>simp[h1,h2,h3,h4,h5,e4]
 by_cases h6:w=0
 ·subst h6;cases f<;>by_cases h7:n<s<;>simp[h1,h2,h3,h4,e4,h7]
 ·have h7:w>0:=by omega
  have e6:(w !=0)=true:=by simpa using h6
  have e7:(w==0)=false:=by simpa using h6
  cases f<;>by_cases h8:n<s<;>by_cases h9:n<2<;>cases a<;>simp[h1,h2,h3,h4,h5,e4,e6,e7,h7,h8,h9]
theorem rstep (l:List ITMT) (hl:l.length<=1000000) (i:Nat) (hi:i<l.length):
  (Zbw (l,false,l,iN l.length,(i:Int),())).val=some (bif badI l i then .ret (l,false,l,iN l.length,(i:Int),()) else .cont (l,false,l,iN l.length,((i+1:Nat):Int),())):=by
 have k1:decide ((i:Int)<iN l.length)=true:=by simp[iN];omega
 have k2:Ze (i:Int) l.length=true:=Zw.2 ⟨by omega,by omega⟩;have k3:i64.wrap ((i:Int)+1)=(i:Int)+1:=Zv _ (by omega) (by omega);have k4:i64.wrap ((i:Int)-1)=(i:Int)-1:=Zv _ (by omega) (by omega);have kc:((i+1:Nat):Int)=(i:Int)+1:=by omega
 have kl:=ZN2 l i hi hl;have k5:decide (i+1=l.length)=false->Ze ((i:Int)+1) l.length=true:=λh0=>Zw.2 ⟨by omega,by simp at h0;omega⟩
 have kp:decide ((i:Int)>0)=true->Ze ((i:Int)-1) l.length=true:=λh0=>Zw.2 ⟨by simp at h0;omega,by omega⟩
 obtain⟨y,hy⟩:∃y,R.get Z0 l (i:Int)=y:=⟨_,rfl⟩;have hy':at_ l (i:Int)=y:=hy;unfold badI;simp only[hy',kc];unfold at_ ZLu;cases e1:y.1==1
 ·have e24:(bif y.1==2 then y.1==2 else bif y.1==3 then y.1==3 else y.1==4)=(y.1==2||(y.1==3||y.1==4)):=by cases y.1==2<;>cases y.1==3<;>rfl
  cases ep:decide ((i:Int)>0)
  ·simp only[Zbw,RT.val,k1,k2,k3,k4,kl,hy,e1,ep,e24,ZM9,ZaN,Zad,Yf,Yl,Yt,Ye,Yk,Yw,YL,YO,YD,YP,Ya,Yb];cases (y.1==2||(y.1==3||y.1==4))<;>cases decide (y.2.2.2.1<1)<;>cases y.2.2.1 !=0<;>rfl
  ·have k6:=kp ep;simp only[Zbw,RT.val,k1,k2,k3,k4,kl,k6,hy,e1,ep,e24,ZM9,ZaN,Zad,Yf,Yl,Yt,Ye,Yk,Yw,YL,YO,YD,YP,Ya,Yb];generalize ((R.get Z0 l ((i:Int)-1)).1==y.1)=s1;generalize ((R.get Z0 l ((i:Int)-1)).2.2.2.2.1==y.2.2.2.2.1)=s2;generalize ((R.get Z0 l ((i:Int)-1)).2.2.2.2.2==y.2.2.2.2.2)=s3;cases (y.1==2||(y.1==3||y.1==4))<;>cases decide (y.2.2.2.1<1)<;>cases y.2.2.1 !=0<;>cases s1<;>cases s2<;>cases s3<;>rfl
 ·rw[<-ZOe];generalize hx:orR [decide (y.2.2.1<0),decide (y.2.2.2.1>y.2.1.2.2.2),decide (y.2.2.2.1<1),decide (y.2.1.2.2.2>6),decide (y.2.1.2.2.2<3)] (decide (y.2.2.1>0)&&(decide (y.2.2.2.1<2)|| !Zk y.2.1.1))=x;cases el:decide (i+1=l.length)
  ·have k7:=k5 el;simp only[Zbw,RT.val,k1,k2,k3,k4,kl,k7,el,hy,e1,hx,ZaN,Zad,Yf,Yl,Yt,Ye,Yk,Yw,YL,YO,YD,YP,Ya,Yb,bne];cases x<;>cases decide (y.2.2.2.1<y.2.1.2.2.2)<;>cases (R.get Z0 l ((i:Int)+1)).1==4<;>rfl
  ·simp only[Zbw,RT.val,k1,k2,k3,k4,kl,el,hy,e1,hx,ZaN,Zad,Yf,Yl,Yt,Ye,Yk,Yw,YL,YO,YD,YP,Ya,Yb];cases x<;>cases decide (y.2.2.2.1<y.2.1.2.2.2)<;>rfl
theorem ZNd (l:List ITMT) (hl:l.length<=1000000) {t:List ITMT×Bool×List ITMT×Int×Int×PUnit->RT (Option (Go1 (List ITMT×Bool×List ITMT×Int×Int×PUnit)))}
  (hs:∀i,i<l.length->(t (l,false,l,iN l.length,(i:Int),())).val=some (bif badI l i then .ret (l,false,l,iN l.length,(i:Int),()) else .cont (l,false,l,iN l.length,((i+1:Nat):Int),())))
  (he:(t (l,false,l,iN l.length,(l.length:Int),())).val=some (.brk (l,false,l,iN l.length,(l.length:Int),()))):
  ∃r,runF true t (λ_=>1000000000000) (l,false,l,iN l.length,0,())=some r/\r.2.2.1=false/\(r.1=true↔∃j,j<l.length/\badI l j=true):=by
 obtain⟨r,h1,h2⟩:=Zrm (f:=λa=>(t a).val) (st:=λi=>(l,false,l,iN l.length,(i:Int),())) (out:=λi=>(l,false,l,iN l.length,(i:Int),())) (bad:=badI l) (n:=l.length) hs he l.length 0 1000000000000 (by omega) (by omega);refine⟨r,?_,?_,?_⟩
 ·unfold runF;have h1':runL (λa=>(t a).val) 1000000000000 (l,false,l,iN l.length,0,())=some r:=h1;rw[h1'];obtain⟨r1,r2⟩:=r;cases r1<;>rfl
 ·rcases h2 with ⟨q1,j,q2,q3,q4,q5⟩|⟨q1,q2,q3⟩
  ·rw[q5]
  ·rw[q2]
 ·rcases h2 with ⟨q1,j,q2,q3,q4,q5⟩|⟨q1,q2,q3⟩
  ·exact⟨λ_=>⟨j,q3,q4⟩,λ_=>q1⟩
  ·refine⟨λh=>by rw[q1] at h;simp at h,λ⟨j,h1,h2⟩=> ?_⟩;rw[q3 j (Yr _) h1] at h2;simp at h2
theorem Zn1 (k:Int) (l:List ITMT) (hl:l.length<=1000000):Zgw k l=true/\Zfz k l=true/\Zny k l=ZhX k l:=by
 have k1:decide ((l.length:Int)<iN l.length)=false:=by simp[iN]
 have z1:(ZbP (l,false,l,iN l.length,(l.length:Int),())).val=some (.brk (l,false,l,iN l.length,(l.length:Int),())):=by simp only[ZbP,RT.val,k1,Yb]
 have z2:(Zbw (l,false,l,iN l.length,(l.length:Int),())).val=some (.brk (l,false,l,iN l.length,(l.length:Int),())):=by simp only[Zbw,RT.val,k1,Yb]
 obtain⟨r,h1,h2,h3⟩:=ZNd l hl (gstep l hl) z1;obtain⟨q,g1,g2,g3⟩:=ZNd l hl (rstep l hl) z2;have e:r.1=q.1:=by rw[Bool.eq_iff_iff,h3,g3]
 have v1:(ZlX k l).val=some (!r.1):=by simp only[ZlX,RT.val,h1,okB,getO,Ya,h2];cases r.1<;>rfl
 have v2:(ZgX k l).val=some (!q.1):=by simp only[ZgX,RT.val,g1,okB,getO,Ya,g2];cases q.1<;>rfl
 exact⟨by simp only[Zgw,v1,okB],by simp only[Zfz,v2,okB],by simp only[Zny,ZhX,v1,v2,getO,e]⟩
theorem ZHW:Zcu=Zgn:=by funext a;rfl
theorem sts_T (l:List ITMT):(ZeC l).val=(Ze1 l).val:=by simp only[ZeC,Ze1,ZHW]
theorem ZHV (l:List ITMT) (hl:l.length<=1000000) (i:Nat) (hi:i<l.length) (c w d t z:Int):∃c' w' d' t' z',(Zcu (c,w,d,t,z,l,iN l.length,(i:Int),())).val=some (.cont (c',w',d',t',z',l,iN l.length,((i+1:Nat):Int),())):=by
 have k1:decide ((i:Int)<iN l.length)=true:=by simp[iN];omega
 have k2:Ze (i:Int) l.length=true:=Zw.2 ⟨by omega,by omega⟩;have k3:i64.wrap ((i:Int)+1)=((i+1:Nat):Int):=by rw[Zv _ (by omega) (by omega)];omega
 simp only[Zcu,RT.val,k1,k2,k3,Ya];cases (R.get Z0 l (i:Int)).1==1
 ·cases (R.get Z0 l (i:Int)).1==2
  ·cases (R.get Z0 l (i:Int)).1==3
   ·exact⟨_,_,_,_,_,rfl⟩
   ·exact⟨_,_,_,_,_,rfl⟩
  ·exact⟨_,_,_,_,_,rfl⟩
 ·exact⟨_,_,_,_,_,rfl⟩
theorem ZDD (l:List ITMT) (hl:l.length<=1000000):Zap l=true/\ZaR l=true/\Zav l=Z9 l:=by
 obtain⟨r,hr,h0⟩:=Zat (fl:=false) (t:=Zcu) (fuel:=λ_=>1000000000000)
  (λa=>∃(i:Nat) (c w d t z:Int),i<=l.length/\a=(c,w,d,t,z,l,iN l.length,(i:Int),())) (λa=>l.length-a.2.2.2.2.2.2.2.1.toNat) (λr=>r.1=false)
  (by
   rintro a ⟨i,c,w,d,t,z,hi,rfl⟩;by_cases hlt:i<l.length
   ·obtain⟨c',w',d',t',z',h⟩:=ZHV l hl i hlt c w d t z;exact .inl ⟨_,h,⟨i+1,c',w',d',t',z',hlt,rfl⟩,by simp;omega⟩
   ·have k1:decide ((i:Int)<iN l.length)=false:=by simp[iN];omega
    exact .inr (.inl ⟨(c,w,d,t,z,l,iN l.length,(i:Int),()),by simp only[Zcu,RT.val,k1,Yb],rfl⟩))
  (0,0,0,0,0,l,iN l.length,0,()) ⟨0,0,0,0,0,0,Yr _,rfl⟩ (by simp;omega)
 have hv:∃v,(ZeC l).val=some v:=by simp only[ZeC,RT.val,hr,okB,getO,Ya];exact⟨_,rfl⟩
 obtain⟨v,hv⟩:=hv;have hv2:=hv;rw[sts_T] at hv2;exact⟨by simp only[Zap,hv,okB],by simp only[ZaR,hv2,okB],by simp only[Zav,Z9,hv,hv2,getO]⟩
theorem counts_law (k:Int) (l:List ITMT) (n:List Int):ZGp k l n=true/\ZMz k l n=true:=by
 have hv:(Znv k l n).val=some true:=by
  cases hx:decide (iN (List.length l)>60)||decide (iN (List.length n)>250)
  ·obtain⟨r1,r2,hg,hm,hs⟩:=ZH3 n;obtain⟨g1,g2⟩:=ZH5 (brdK n true) (scrG n) hg (by omega) (by omega);have ht:=ZDS (brdK n true) (scrG n);have hil:=ZI7 g2 (brdK n true).1;rw[ZJn g2 (brdK n true).1,g1] at hil;have hl:l.length<=60:=by simp only[Yi,Yaf,iN] at hx;omega
   obtain⟨m1,m2,_⟩:=ZI3 n;have em:Stg.l (newG Zal Zam (ZbO n))=ZbO n:=rfl;have er:(ZaW n).2.2.1=(ZgP (brdK n true) (scrG n)).1.2.1:=by rw[r2]
   have hr:(ZaW n).2.2.1.length<=1000000:=by rw[er];omega
   obtain⟨a1,a2,a3⟩:=ZDD l (by omega);obtain⟨b1,b2,b3⟩:=ZDD (ZbO n) (by omega);obtain⟨c1,c2,c3⟩:=ZDD (ZaW n).2.2.1 hr;obtain⟨d1,d2,d3⟩:=Zn1 k l (by omega);obtain⟨e1,e2,e3⟩:=Zn1 k (ZbO n) (by omega);obtain⟨f1,f2,f3⟩:=Zn1 k (ZaW n).2.2.1 hr;simp only[Znv,RT.val,hx,em,r1,m1,a1,a2,a3,b1,b2,b3,c1,c2,c3,d1,d2,d3,e1,e2,e3,f1,f2,f3,ZzL.1,ZzL.2,ZaN,Zad,bne_self_eq_false,beq_self_eq_true,Yf,Yl,Yt,Ye,Yk,Yw,YL,YO,YD,YP,Ya,Yb]
  ·simp only[Znv,RT.val,hx,ZzL.1,ZzL.2,Yf,Yl,Yt,Ye,Yk,Yw,Ya,Yb]
 exact⟨by simp only[ZGp,hv];rfl,by simp only[ZMz,hv,getO]⟩
end
end Go.Proofs.YtpnjbfjomebppaaGreat
