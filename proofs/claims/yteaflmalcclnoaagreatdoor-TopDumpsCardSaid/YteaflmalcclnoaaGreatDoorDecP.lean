import Derived.Test.YteaflmalcclnoaaGreatDoorR12P
open Go.Proofs.Tryz (prog)
open Go.IntKind (u8 u16 i64 wrap)
set_option linter.unusedSimpArgs false
open Go Go.S3 Go.Proofs
open Go.S3.R (Pq)
set_option linter.unusedVariables false
set_option maxRecDepth 100000
namespace Go.Proofs.YteaflmalcclnoaaGreatDoor
noncomputable section
def ZED (s:List Int×Int):RT (Option (Bool×List Int×Int)):=
 .br (Zj s 2) (Ls (((Zb s 2).1==1,(Zb s 2).2))) Ln
def Zag (s:List Int×Int):Bool×List Int×Int:=getO (ZnA.Df,ZBm.Df) (ZED s).val
def Zbp (s:List Int×Int):Bool:=okB (ZED s).val
def ZTB:En:=boxE ZBm Zv5 ZnA (λa=>some (Zbp a.1)) (λa=>Zag a.1)
theorem ZRw:Za prog 35 ZTB:=
 ZcA (P:=prog) (n:=7) (k:=8) (l:=[(36,ZcU)]) (ol:=[]) ⟨Zbb,Tv⟩ Tryz.func35 rfl (by kernel_rfl) Tryz.call35 trivial (rb:=ZBm) (ts:=Zv5) (rs:=ZnA) (t:=λa=>ZED a.1) (λa=>by kernel_rfl)
abbrev Zd5:R:=Pq Kb (Pq Kb (Pq R.bool Kc))
abbrev Zd6:Nat:=79
def ZBi:LS:={n:=44,Sl:=[(0,.fix (A.loc 0 0)),(5,.tip 0),(6,.code (So Kc))],Bx:=[[.many (Pq (R.sl Kc) Kc)]],Sg:=[⟨(Pq Kb (Pq Kb (Pq R.bool Kc))),79,false⟩]}
def ZbY (a:QT19):RT (Option (Go1 (QT19))):=
 let x1:= !Zj (ZaR a.2.1).2 6||Zh (Zb (ZaR a.2.1).2 6).1 (Le [0,3,15,255,4095,65535])
 let x2:= !x1
 let x3:= !Zj (Zb (Zb (ZaR a.2.1).2 6).2 3).2 5
 let x4:Int:=(Zb (Zb (Zb (ZaR a.2.1).2 6).2 3).2 5).1
 let x5:=Zh x4 (Le [0,0,1,2,5])
 let x6:=i64.wrap (i64.wrap (ZaR a.2.1).1+R.get Kc [0,3,15,255,4095,65535] (Zb (ZaR a.2.1).2 6).1)
 let x7:List (QT5):=a.2.2.1++[((ZaR a.2.1).1,u16.wrap (if 65535<x6 then 65535 else x6),decide ((Zb (Zb (ZaR a.2.1).2 6).2 3).1>0),R.get Kc [0,0,1,2,5] x4)]
 let x8:= !Zj (Zb (ZaR a.2.1).2 6).2 3||(x3||(!x5||Nat.ble (Le x7) most))
 let x9:= !x8
 let x10:= !Zj (Zb (ZaR a.2.1).2 6).2 3||(x3||x5)
 let x11:= !x10
 let x12:= !Zj (Zb (ZaR a.2.1).2 6).2 3||Zj (Zb (Zb (ZaR a.2.1).2 6).2 3).2 5
 .br (decide (a.1>0)) (.br (!Zgb a.2.1||(x2||(!Zj (ZaR a.2.1).2 6||(x9||(x11||(!x12||Zj (Zb (ZaR a.2.1).2 6).2 3)))))) (.br (!Zgb a.2.1||(x2||(!Zj (ZaR a.2.1).2 6||(x9||(x11||x12))))) (.br (!Zgb a.2.1||(x2||(!Zj (ZaR a.2.1).2 6||(x9||x10)))) (.br (!Zgb a.2.1||(x2||(!Zj (ZaR a.2.1).2 6||x8))) (.br (!Zgb a.2.1||(x2||Zj (ZaR a.2.1).2 6)) (.br (!Zgb a.2.1||x1) (.br (Zgb a.2.1) (Ls (Go1.cont (i64.wrap (a.1-1),(Zb (Zb (Zb (ZaR a.2.1).2 6).2 3).2 5).2,x7,PUnit.unit))) Ln) Ln) Ln) Ln) Ln) Ln) Ln) (Ls (Go1.brk (a.1,a.2.1,a.2.2.1,PUnit.unit)))
def Zou:Ora:=Zbq false ZBi ZbY (λa=>400)
theorem Zuc:Za1 (envX prog [(36,ZcU),(95,ZM0)] [] 511 8) (.block 0 (.loop (Z5 Tryz.f135.body 0))) Zou:=
 loopP ⟨Zbb,ZEy,Tv⟩
def Zeq (s:List Int×Int) (n:Int):RT (Option (List (QT5)×List Int×Int)):=
 let x1:QT19:=((Zb s (i64.wrap (n+1))).1,(Zb s (i64.wrap (n+1))).2,[],())
 let x2:=runF false ZbY (λa=>400) x1
 let x3:(List Int×Int)×List (QT5)×PUnit:=(getO (false,x1) x2).2.2
 .br (Zj s (i64.wrap (n+1))) (.br (okB x2) (Ls ((x3.2.1,x3.1))) Ln) Ln
def ZT (s:List Int×Int) (n:Int):List (QT5)×List Int×Int:=getO ([],ZBm.Df) (Zeq s n).val
def ZbZ (s:List Int×Int) (n:Int):Bool:=okB (Zeq s n).val
def ZwX:En:=frzE (ZHl ZBm Zd5 Zd6 Zwr (λa=>some (ZbZ a.1 a.2)) (λa=>ZT a.1 a.2))
theorem ZwY:Za prog 135 (ZHl ZBm Zd5 Zd6 Zwr (λa=>some (ZbZ a.1 a.2)) (λa=>ZT a.1 a.2)):=
 ZMW (P:=prog) (n:=511) (k:=8) (l:=[(36,ZcU),(95,ZM0)]) (ol:=[(0,Zou)]) ⟨Zbb,ZEy,Tv⟩ Tryz.func135 rfl (by kernel_rfl) Tryz.call135 ⟨Zuc,Tv⟩ (rb:=ZBm) (r:=Zd5) (T:=Zd6) (ts:=Zwr) (t:=λa=>Zeq a.1 a.2) (λa=>by kernel_rfl)
theorem ZBg:Za prog 135 ZwX:=ZxD ZwY
abbrev ZM3:Rs:=Rs.one (So rcRG)
def ZBo (s:List Int×Int):RT (Option (List (QT5)×List Int×Int)):=
 let x1:List (QT5):=Stg.l (newG Zd5 Zd6 (ZT s 2).1)++[(0,65535,true,i64.wrap (Int.tdiv (Zb (ZT s 2).2 3).1 2))]
 .br (!ZbZ s 2||(!Zj (ZT s 2).2 3||Nat.ble (Le x1) most)) (.br (!ZbZ s 2||Zj (ZT s 2).2 3) (.br (ZbZ s 2) (Ls ((x1,(Zb (ZT s 2).2 3).2))) Ln) Ln) Ln
def nMap (s:List Int×Int):List (QT5)×List Int×Int:=getO (ZM3.Df,ZBm.Df) (ZBo s).val
def ZHo (s:List Int×Int):Bool:=okB (ZBo s).val
def ZWu:En:=boxE ZBm Zv5 ZM3 (λa=>some (ZHo a.1)) (λa=>nMap a.1)
theorem ZM2:Za prog 50 ZWu:=
 ZcA (P:=prog) (n:=7) (k:=8) (l:=[(36,ZcU),(135,ZwX)]) (ol:=[]) ⟨Zbb,ZBg,Tv⟩ Tryz.func50 rfl (by kernel_rfl) Tryz.call50 trivial (rb:=ZBm) (ts:=Zv5) (rs:=ZM3) (t:=λa=>ZBo a.1) (λa=>by kernel_rfl)
def ZBk:LS:={n:=75,Sl:=[(0,.fix (A.loc 0 0)),(5,.tip 0),(6,.code (So Kc))],Bx:=[[.many (Pq (R.sl Kc) Kc)]],Sg:=[⟨Ka,5,true⟩]}
def Zdd (a:QT26):RT (Option (Go1 (QT26))):=
 let x1:=Zh (Zb (Zb a.2.1 8).2 4).1 (Le [33,49,1,17])
 let x2:= !x1
 let x3:=Zj (Zb (Zb (Zb a.2.1 8).2 4).2 256).2 4
 let x4:= !x3
 let x5:=Zb (Zb (Zb (Zb a.2.1 8).2 4).2 256).2 4
 let x6:=x5.1
 let x7:=Zh x6 (Le [0,0,1,255])
 let x8:List Int:=a.2.2.1++[R.get Ka [33,49,1,17] (Zb (Zb a.2.1 8).2 4).1,u8.wrap (Zb (Zb (Zb a.2.1 8).2 4).2 256).1,R.get Ka [0,0,1,255] x6]
 let x9:= !(Zb a.2.1 8).1==0||(!Zj (Zb a.2.1 8).2 4||(x2||(!Zj (Zb (Zb a.2.1 8).2 4).2 256||(x4||(!x7||Nat.ble (Le x8) most)))))
 let x10:= !x9
 let x11:= !(Zb a.2.1 8).1==0||(!Zj (Zb a.2.1 8).2 4||(x2||(!Zj (Zb (Zb a.2.1 8).2 4).2 256||(x4||x7))))
 let x12:= !x11
 let x13:= !(Zb a.2.1 8).1==0||(!Zj (Zb a.2.1 8).2 4||(x2||(!Zj (Zb (Zb a.2.1 8).2 4).2 256||x3)))
 let x14:= !x13
 let x15:= !(Zb a.2.1 8).1==0||(!Zj (Zb a.2.1 8).2 4||(x2||Zj (Zb (Zb a.2.1 8).2 4).2 256))
 let x16:= !x15
 let x17:= !(Zb a.2.1 8).1==0||(!Zj (Zb a.2.1 8).2 4||x1)
 let x18:= !x17
 let x19:= !(Zb a.2.1 8).1==0||Zj (Zb a.2.1 8).2 4
 let x20:= !x19
 let x21:List Int:=a.2.2.1++[62,(Zc3 (Zb a.2.1 8).2).1,211,u8.wrap (Zb (Zc3 (Zb a.2.1 8).2).2 8).1]
 let x22:=(Zb a.2.1 8).1==0||(!(Zb a.2.1 8).1==1||(!ZgR (Zb a.2.1 8).2||(!Zj (Zc3 (Zb a.2.1 8).2).2 8||Nat.ble (Le x21) most)))
 let x23:= !x22
 let x24:=(Zb a.2.1 8).1==0||(!(Zb a.2.1 8).1==1||(!ZgR (Zb a.2.1 8).2||Zj (Zc3 (Zb a.2.1 8).2).2 8))
 let x25:= !x24
 let x26:=(Zb a.2.1 8).1==0||(!(Zb a.2.1 8).1==1||ZgR (Zb a.2.1 8).2)
 let x27:= !x26
 let x28:=(Zb a.2.1 8).1==0||((Zb a.2.1 8).1==1||(!(Zb a.2.1 8).1==2||Nat.ble (Le (a.2.2.1++[251])) most))
 let x29:= !x28
 let x30:List Int:=a.2.2.1++[62,u8.wrap (i64.wrap (16+(Zb (Zb a.2.1 8).2 16).1)),211,0,62,(Zc3 (Zb (Zb a.2.1 8).2 16).2).1,211,1,62,0,211,1]
 let x31:=(Zb a.2.1 8).1==0||((Zb a.2.1 8).1==1||((Zb a.2.1 8).1==2||(!(Zb a.2.1 8).1==3||(!Zj (Zb a.2.1 8).2 16||(!ZgR (Zb (Zb a.2.1 8).2 16).2||Nat.ble (Le x30) most)))))
 let x32:= !x31
 let x33:=(Zb a.2.1 8).1==0||((Zb a.2.1 8).1==1||((Zb a.2.1 8).1==2||(!(Zb a.2.1 8).1==3||(!Zj (Zb a.2.1 8).2 16||ZgR (Zb (Zb a.2.1 8).2 16).2))))
 let x34:= !x33
 let x35:=(Zb a.2.1 8).1==0||((Zb a.2.1 8).1==1||((Zb a.2.1 8).1==2||(!(Zb a.2.1 8).1==3||Zj (Zb a.2.1 8).2 16)))
 let x36:= !x35
 let x37:= !Zj (Zb (Zal (Zb a.2.1 8).2).2 64).2 4
 let x38:Int:=(Zb (Zb (Zal (Zb a.2.1 8).2).2 64).2 4).1
 let x39:=Zh x38 (Le [0,0,1,255])
 let x40:List Int:=a.2.2.1++[(Zal (Zb a.2.1 8).2).1,u8.wrap (Zb (Zal (Zb a.2.1 8).2).2 64).1,R.get Ka [0,0,1,255] x38]
 let x41:=(Zb a.2.1 8).1==0||((Zb a.2.1 8).1==1||((Zb a.2.1 8).1==2||((Zb a.2.1 8).1==3||(!Zcc (Zb a.2.1 8).2||(!Zj (Zal (Zb a.2.1 8).2).2 64||(x37||(!x39||Nat.ble (Le x40) most)))))))
 let x42:= !x41
 let x43:=(Zb a.2.1 8).1==0||((Zb a.2.1 8).1==1||((Zb a.2.1 8).1==2||((Zb a.2.1 8).1==3||(!Zcc (Zb a.2.1 8).2||(!Zj (Zal (Zb a.2.1 8).2).2 64||(x37||x39))))))
 let x44:= !x43
 let x45:=(Zb a.2.1 8).1==0||((Zb a.2.1 8).1==1||((Zb a.2.1 8).1==2||((Zb a.2.1 8).1==3||(!Zcc (Zb a.2.1 8).2||(!Zj (Zal (Zb a.2.1 8).2).2 64||Zj (Zb (Zal (Zb a.2.1 8).2).2 64).2 4)))))
 let x46:= !x45
 let x47:=(Zb a.2.1 8).1==0||((Zb a.2.1 8).1==1||((Zb a.2.1 8).1==2||((Zb a.2.1 8).1==3||(!Zcc (Zb a.2.1 8).2||Zj (Zal (Zb a.2.1 8).2).2 64))))
 let x48:=x10||(x12||(x14||(x16||(x18||(x20||(x23||(x25||(x27||(x29||(x32||(x34||(x36||(x42||(x44||(x46||(!x47||((Zb a.2.1 8).1==0||((Zb a.2.1 8).1==1||((Zb a.2.1 8).1==2||((Zb a.2.1 8).1==3||Zcc (Zb a.2.1 8).2))))))))))))))))))))
 let x49:= !x48
 let x50:=x10||(x12||(x14||(x16||(x18||(x20||(x23||(x25||(x27||(x29||(x32||(x34||(x36||(x42||(x44||(x46||x47)))))))))))))))
 let x51:= !x50
 let x52:=x10||(x12||(x14||(x16||(x18||(x20||(x23||(x25||(x27||(x29||(x32||(x34||(x36||(x42||(x44||x45))))))))))))))
 let x53:= !x52
 let x54:=x10||(x12||(x14||(x16||(x18||(x20||(x23||(x25||(x27||(x29||(x32||(x34||(x36||(x42||x43)))))))))))))
 let x55:= !x54
 let x56:=x10||(x12||(x14||(x16||(x18||(x20||(x23||(x25||(x27||(x29||(x32||(x34||(x36||x41))))))))))))
 let x57:= !x56
 let x58:=x10||(x12||(x14||(x16||(x18||(x20||(x23||(x25||(x27||(x29||(x32||(x34||x35)))))))))))
 let x59:= !x58
 let x60:=x10||(x12||(x14||(x16||(x18||(x20||(x23||(x25||(x27||(x29||(x32||x33))))))))))
 let x61:= !x60
 let x62:=x10||(x12||(x14||(x16||(x18||(x20||(x23||(x25||(x27||(x29||x31)))))))))
 let x63:= !x62
 let x64:=x10||(x12||(x14||(x16||(x18||(x20||(x23||(x25||(x27||x28))))))))
 let x65:= !x64
 let x66:=x10||(x12||(x14||(x16||(x18||(x20||(x23||(x25||x26)))))))
 let x67:= !x66
 let x68:=x10||(x12||(x14||(x16||(x18||(x20||(x23||x24))))))
 let x69:= !x68
 let x70:=x10||(x12||(x14||(x16||(x18||(x20||x22)))))
 let x71:= !x70
 let x72:=x10||(x12||(x14||(x16||(x18||x19))))
 let x73:= !x72
 let x74:=x10||(x12||(x14||(x16||x17)))
 let x75:= !x74
 let x76:=x10||(x12||(x14||x15))
 let x77:= !x76
 let x78:=x10||(x12||x13)
 let x79:= !x78
 let x80:=x10||x11
 let x81:List Int×Int:=(Zb (Zb (Zal (Zb a.2.1 8).2).2 64).2 4).2
 .br (decide (a.1>0)) (.br (!Zj a.2.1 8||(x49||(x51||(x53||(x55||(x57||(x59||(x61||(x63||(x65||(x67||(x69||(x71||(x73||(x75||(x77||(x79||(!x80||x9)))))))))))))))))) (.br (!Zj a.2.1 8||(x49||(x51||(x53||(x55||(x57||(x59||(x61||(x63||(x65||(x67||(x69||(x71||(x73||(x75||(x77||(x79||x80))))))))))))))))) (.br (!Zj a.2.1 8||(x49||(x51||(x53||(x55||(x57||(x59||(x61||(x63||(x65||(x67||(x69||(x71||(x73||(x75||(x77||x78)))))))))))))))) (.br (!Zj a.2.1 8||(x49||(x51||(x53||(x55||(x57||(x59||(x61||(x63||(x65||(x67||(x69||(x71||(x73||(x75||x76))))))))))))))) (.br (!Zj a.2.1 8||(x49||(x51||(x53||(x55||(x57||(x59||(x61||(x63||(x65||(x67||(x69||(x71||(x73||x74)))))))))))))) (.br (!Zj a.2.1 8||(x49||(x51||(x53||(x55||(x57||(x59||(x61||(x63||(x65||(x67||(x69||(x71||x72))))))))))))) (.br (!Zj a.2.1 8||(x49||(x51||(x53||(x55||(x57||(x59||(x61||(x63||(x65||(x67||(x69||x70)))))))))))) (.br (!Zj a.2.1 8||(x49||(x51||(x53||(x55||(x57||(x59||(x61||(x63||(x65||(x67||x68))))))))))) (.br (!Zj a.2.1 8||(x49||(x51||(x53||(x55||(x57||(x59||(x61||(x63||(x65||x66)))))))))) (.br (!Zj a.2.1 8||(x49||(x51||(x53||(x55||(x57||(x59||(x61||(x63||x64))))))))) (.br (!Zj a.2.1 8||(x49||(x51||(x53||(x55||(x57||(x59||(x61||x62)))))))) (.br (!Zj a.2.1 8||(x49||(x51||(x53||(x55||(x57||(x59||x60))))))) (.br (!Zj a.2.1 8||(x49||(x51||(x53||(x55||(x57||x58)))))) (.br (!Zj a.2.1 8||(x49||(x51||(x53||(x55||x56))))) (.br (!Zj a.2.1 8||(x49||(x51||(x53||x54)))) (.br (!Zj a.2.1 8||(x49||(x51||x52))) (.br (!Zj a.2.1 8||(x49||x50)) (.br (!Zj a.2.1 8||x48) (.br (Zj a.2.1 8) (.br ((Zb a.2.1 8).1==0) (Ls (Go1.cont (i64.wrap (a.1-1),x5.2,x8,PUnit.unit))) (.br ((Zb a.2.1 8).1==1) (Ls (Go1.cont (i64.wrap (a.1-1),(Zb (Zc3 (Zb a.2.1 8).2).2 8).2,x21,PUnit.unit))) (.br ((Zb a.2.1 8).1==2) (Ls (Go1.cont (i64.wrap (a.1-1),(Zb a.2.1 8).2,a.2.2.1++[251],PUnit.unit))) (Ls (Go1.cont (i64.wrap (a.1-1),(bif (Zb a.2.1 8).1==3 then (Zc3 (Zb (Zb a.2.1 8).2 16).2).2.1 else x81.1,bif (Zb a.2.1 8).1==3 then (Zc3 (Zb (Zb a.2.1 8).2 16).2).2.2 else x81.2),bif (Zb a.2.1 8).1==3 then x30 else x40,PUnit.unit)))))) Ln) Ln) Ln) Ln) Ln) Ln) Ln) Ln) Ln) Ln) Ln) Ln) Ln) Ln) Ln) Ln) Ln) Ln) Ln) (Ls (Go1.brk (a.1,a.2.1,a.2.2.1,PUnit.unit)))
def Zow:Ora:=Zbq false ZBk Zdd (λa=>400)
theorem Zud:Za1 (envX prog [(36,ZcU),(51,Zw4),(53,Zhv)] [] 9511883889056940159 8) (.block 0 (.loop (Z5 Tryz.f52.body 0))) Zow:=
 loopP ⟨Zbb,ZlW,Zfp,Tv⟩
def ZgP (s:List Int×Int) (n:Int):RT (Option (List Int×List Int×Int)):=
 let x1:QT26:=((Zb s (i64.wrap (n+1))).1,(Zb s (i64.wrap (n+1))).2,[],())
 let x2:=runF false Zdd (λa=>400) x1
 let x3:(List Int×Int)×List Int×PUnit:=(getO (false,x1) x2).2.2
 .br (Zj s (i64.wrap (n+1))) (.br (okB x2) (Ls ((x3.2.1,x3.1))) Ln) Ln
def Zcb (s:List Int×Int) (n:Int):List Int×List Int×Int:=getO (ZIl.Df,ZBm.Df) (ZgP s n).val
def ZgQ (s:List Int×Int) (n:Int):Bool:=okB (ZgP s n).val
def Zox:En:=boxE ZBm Zwr ZIl (λa=>some (ZgQ a.1 a.2)) (λa=>Zcb a.1 a.2)
theorem Zov:Za prog 52 Zox:=
 ZcA (P:=prog) (n:=9511883889056940159) (k:=8) (l:=[(36,ZcU),(51,Zw4),(53,Zhv)]) (ol:=[(0,Zow)]) ⟨Zbb,ZlW,Zfp,Tv⟩ Tryz.func52 rfl (by kernel_rfl) Tryz.call52 ⟨Zud,Tv⟩ (rb:=ZBm) (ts:=Zwr) (rs:=ZIl) (t:=λa=>ZgP a.1 a.2) (λa=>by kernel_rfl)
abbrev Zug:Rs:=Rs.one (Sh.agg (Pq Kc (Pq rcRG (Pq Kc (Pq Ka (Pq Ka (Pq R.bool rcCE)))))))
def ZNb:LS:={n:=50,Sl:=[(0,.fix (A.loc 0 0)),(2,.fix (A.loc 1 0)),(3,.fix (A.loc 2 0)),(4,.tip 0),(5,.code (So Kc))],Bx:=[[.many (Pq (R.sl Kc) Kc)],[.many (Pq Kc (Pq rcRG (Pq Kc (Pq Ka (Pq Ka (Pq R.bool rcCE))))))],[.many (Pq Kc (Pq rcRG (Pq Kc (Pq Ka (Pq Ka (Pq R.bool rcCE))))))]],Sg:=[⟨Pq Kb Ka,97,true⟩]}
def Zfr (a:QT18):RT (Option (Go1 (QT18))):=
 let x1:=Zh (Zb a.2.1 6).1 (Le [36,60,52,44,56,32])
 let x2:= !x1
 let x3:List Int:=[(Zal (Zb a.2.1 6).2).1,251,201]
 let x4:=smB x3
 let x5:List (Int×Int):=a.2.2.2.2.1++Stg.l (newG ZcQ ZrC (ZoT (u16.wrap (R.get Kc [36,60,52,44,56,32] (Zb a.2.1 6).1)) x3))
 let x6:= !Zj a.2.1 6||(x2||(!Zcc (Zb a.2.1 6).2||(!x4||Nat.ble (Le x5) most)))
 let x7:= !x6
 let x8:= !Zj a.2.1 6||(x2||(!Zcc (Zb a.2.1 6).2||x4))
 let x9:= !x8
 let x10:= !Zj a.2.1 6||(x2||Zcc (Zb a.2.1 6).2)
 let x11:= !x10
 let x12:= !Zj a.2.1 6||x1
 .br (decide (a.1>0)) (.br (x7||(x9||(x11||(!x12||Zj a.2.1 6)))) (.br (x7||(x9||(x11||x12))) (.br (x7||(x9||x10)) (.br (x7||x8) (.br (x6) (Ls (Go1.cont (i64.wrap (a.1-1),(Zal (Zb a.2.1 6).2).2,a.2.2.1,a.2.2.2.1,x5,PUnit.unit))) Ln) Ln) Ln) Ln) Ln) (Ls (Go1.brk (a.1,a.2.1,a.2.2.1,a.2.2.2.1,a.2.2.2.2.1,PUnit.unit)))
def Zw6:Ora:=Zbq false ZNb Zfr (λa=>400)
theorem ZBv:Za1 (envX prog [(19,ZlG),(33,ZM8),(36,ZcU),(49,Zy7),(50,ZWu),(51,Zw4),(52,Zox),(53,Zhv)] [] 63 8) (.block 0 (.loop (Z5 Tryz.f21.body 0))) Zw6:=
 loopP ⟨Zkb,ZEE,Zbb,Zv0,ZM2,ZlW,Zov,Zfp,Tv⟩
def ZoI (s:List Int×Int):RT (Option (BRDT×List Int×Int)):=
 let x1:=(Zb (Zb (Zb (nMap (Za0 s).2).2 3).2 4).2 6).1==0
 let x2:= !x1
 let x3:List Int×Int:=(Zb (Zb (Zb (nMap (Za0 s).2).2 3).2 4).2 6).2
 let x4:=ZgR x3
 let x5:=Zc3 x3
 let x6:=x5.2
 let x7:=Zc3 x6
 let x8:=x7.2
 let x9:List Int×Int:=(bif x1 then x8.1 else x3.1,bif x1 then x8.2 else x3.2)
 let x10:=ZgQ x9 12
 let x11:=Zcb x9 12
 let x12:=x11.1
 let x13:=x11.2
 let x14:=Zb x13 4
 let x15:QT18:=(x14.1,x14.2,(0,[],0,0,0,false,[]),((Za0 s).1,(nMap (Za0 s).2).1,(Zb (nMap (Za0 s).2).2 3).1,bif x1 then x5.1 else 0,bif x1 then x7.1 else 4,(Zb (Zb (nMap (Za0 s).2).2 3).2 4).1==0,[]),Stg.l (newG ZcQ ZrC (ZoT 0 x12)),())
 let x16:=runF false Zfr (λa=>400) x15
 let x17:(List Int×Int)×BRDT×BRDT×List (Int×Int)×PUnit:=(getO (false,x15) x16).2.2
 let x18:=x17.2.2
 let x19:=x18.2.1
 let x20:=x18.1
 let x21:=x20.2
 let x22:=x21.2
 let x23:=x22.2
 let x24:=x23.2
 .br (!ZoG s||(!ZHo (Za0 s).2||(!Zj (nMap (Za0 s).2).2 3||Zj (Zb (nMap (Za0 s).2).2 3).2 4))) (.br (!ZoG s||(!ZHo (Za0 s).2||Zj (nMap (Za0 s).2).2 3)) (.br (!ZoG s||ZHo (Za0 s).2) (.br (ZoG s) (.br (Zj (Zb (Zb (nMap (Za0 s).2).2 3).2 4).2 6) (.br (x2||(!x4||ZgR x6)) (.br (x2||x4) (.br (!x10||smB x12) (.br (x10) (.br (Zj x13 4) (.br (okB x16) (.br (smC x19) (Ls (((x20.1,x21.1,x22.1,x23.1,x24.1,x24.2.1,Cells.normX x19),x17.1))) Ln) Ln) Ln) Ln) Ln) Ln) Ln) Ln) Ln) Ln) Ln) Ln
def Zcs (s:List Int×Int):BRDT×List Int×Int:=getO (Zug.Df,ZBm.Df) (ZoI s).val
def ZoJ (s:List Int×Int):Bool:=okB (ZoI s).val
def ZNc:En:=boxE ZBm Zv5 Zug (λa=>some (ZoJ a.1)) (λa=>Zcs a.1)
theorem ZNa:Za prog 21 ZNc:=
 ZcA (P:=prog) (n:=63) (k:=8) (l:=[(19,ZlG),(33,ZM8),(36,ZcU),(49,Zy7),(50,ZWu),(51,Zw4),(52,Zox),(53,Zhv)]) (ol:=[(0,Zw6)]) ⟨Zkb,ZEE,Zbb,Zv0,ZM2,ZlW,Zov,Zfp,Tv⟩ Tryz.func21 rfl (by kernel_rfl) Tryz.call21 ⟨ZBv,Tv⟩ (rb:=ZBm) (ts:=Zv5) (rs:=Zug) (t:=λa=>ZoI a.1) (λa=>by kernel_rfl)
def ZoE (s:List Int×Int):RT (Option (INPT×List Int×Int)):=
 let x1:=decide ((Zb s 64).1<30)||(decide ((Zb s 64).1<36)||(decide ((Zb s 64).1<40)||(!decide ((Zb s 64).1<46)||Zj (Zb s 64).2 256)))
 let x2:= !x1
 let x3:=decide ((Zb s 64).1<30)||(decide ((Zb s 64).1<36)||(decide ((Zb s 64).1<40)||(decide ((Zb s 64).1<46)||(decide ((Zb s 64).1<50)||(decide ((Zb s 64).1<53)||(decide ((Zb s 64).1<55)||((Zb s 64).1==55||(!decide ((Zb s 64).1<60)||Zcc (Zb s 64).2))))))))
 let x4:= !x3
 let x5:= !Zbp (Zag (Zag (Zag (Zag (Zb s 64).2).2).2).2).2
 let x6:List Int×Int:=(Zag (Zag (Zag (Zag (Zag (Zb s 64).2).2).2).2).2).2
 let x7:=Zj x6 256
 let x8:=Zb x6 256
 let x9:=x8.2
 let x10:=decide ((Zb s 64).1<30)||(decide ((Zb s 64).1<36)||(decide ((Zb s 64).1<40)||(decide ((Zb s 64).1<46)||(decide ((Zb s 64).1<50)||(decide ((Zb s 64).1<53)||(decide ((Zb s 64).1<55)||((Zb s 64).1==55||(decide ((Zb s 64).1<60)||(!Zbp (Zb s 64).2||(!Zbp (Zag (Zb s 64).2).2||(!Zbp (Zag (Zag (Zb s 64).2).2).2||(!Zbp (Zag (Zag (Zag (Zb s 64).2).2).2).2||(x5||(!x7||Zj x9 256))))))))))))))
 let x11:= !x10
 let x12:=decide ((Zb s 64).1<30)||(decide ((Zb s 64).1<36)||(decide ((Zb s 64).1<40)||(decide ((Zb s 64).1<46)||(decide ((Zb s 64).1<50)||(decide ((Zb s 64).1<53)||(decide ((Zb s 64).1<55)||((Zb s 64).1==55||(decide ((Zb s 64).1<60)||(!Zbp (Zb s 64).2||(!Zbp (Zag (Zb s 64).2).2||(!Zbp (Zag (Zag (Zb s 64).2).2).2||(!Zbp (Zag (Zag (Zag (Zb s 64).2).2).2).2||(x5||x7)))))))))))))
 let x13:= !x12
 let x14:=decide ((Zb s 64).1<30)||(decide ((Zb s 64).1<36)||(decide ((Zb s 64).1<40)||(decide ((Zb s 64).1<46)||(decide ((Zb s 64).1<50)||(decide ((Zb s 64).1<53)||(decide ((Zb s 64).1<55)||((Zb s 64).1==55||(decide ((Zb s 64).1<60)||(!Zbp (Zb s 64).2||(!Zbp (Zag (Zb s 64).2).2||(!Zbp (Zag (Zag (Zb s 64).2).2).2||(!Zbp (Zag (Zag (Zag (Zb s 64).2).2).2).2||Zbp (Zag (Zag (Zag (Zag (Zb s 64).2).2).2).2).2))))))))))))
 let x15:= !x14
 let x16:=decide ((Zb s 64).1<30)||(decide ((Zb s 64).1<36)||(decide ((Zb s 64).1<40)||(decide ((Zb s 64).1<46)||(decide ((Zb s 64).1<50)||(decide ((Zb s 64).1<53)||(decide ((Zb s 64).1<55)||((Zb s 64).1==55||(decide ((Zb s 64).1<60)||(!Zbp (Zb s 64).2||(!Zbp (Zag (Zb s 64).2).2||(!Zbp (Zag (Zag (Zb s 64).2).2).2||Zbp (Zag (Zag (Zag (Zb s 64).2).2).2).2)))))))))))
 let x17:= !x16
 let x18:=decide ((Zb s 64).1<30)||(decide ((Zb s 64).1<36)||(decide ((Zb s 64).1<40)||(decide ((Zb s 64).1<46)||(decide ((Zb s 64).1<50)||(decide ((Zb s 64).1<53)||(decide ((Zb s 64).1<55)||((Zb s 64).1==55||(decide ((Zb s 64).1<60)||(!Zbp (Zb s 64).2||(!Zbp (Zag (Zb s 64).2).2||Zbp (Zag (Zag (Zb s 64).2).2).2))))))))))
 let x19:= !x18
 let x20:=decide ((Zb s 64).1<30)||(decide ((Zb s 64).1<36)||(decide ((Zb s 64).1<40)||(decide ((Zb s 64).1<46)||(decide ((Zb s 64).1<50)||(decide ((Zb s 64).1<53)||(decide ((Zb s 64).1<55)||((Zb s 64).1==55||(decide ((Zb s 64).1<60)||(!Zbp (Zb s 64).2||Zbp (Zag (Zb s 64).2).2)))))))))
 let x21:=Zb x9 256
 let x22:=x21.2
 .br (Zj s 64) (.br (x2||(x4||(x11||(x13||(x15||(x17||(x19||(!x20||(decide ((Zb s 64).1<30)||(decide ((Zb s 64).1<36)||(decide ((Zb s 64).1<40)||(decide ((Zb s 64).1<46)||(decide ((Zb s 64).1<50)||(decide ((Zb s 64).1<53)||(decide ((Zb s 64).1<55)||((Zb s 64).1==55||(decide ((Zb s 64).1<60)||Zbp (Zb s 64).2))))))))))))))))) (.br (x2||(x4||(x11||(x13||(x15||(x17||(x19||x20))))))) (.br (x2||(x4||(x11||(x13||(x15||(x17||x18)))))) (.br (x2||(x4||(x11||(x13||(x15||x16))))) (.br (x2||(x4||(x11||(x13||x14)))) (.br (x2||(x4||(x11||x12))) (.br (x2||(x4||x10)) (.br (x2||x3) (.br (x1) (Ls (((bif decide ((Zb s 64).1<30) then ZN.1 else !decide ((Zb s 64).1<36)&&bif decide ((Zb s 64).1<40) then ZN.1 else bif decide ((Zb s 64).1<46) then ZN.1 else bif decide ((Zb s 64).1<50) then ZN.1 else bif decide ((Zb s 64).1<53) then ZN.1 else bif decide ((Zb s 64).1<55) then ZN.1 else bif (Zb s 64).1==55 then ZN.1 else bif decide ((Zb s 64).1<60) then ZN.1 else (Zag (Zb s 64).2).1,bif decide ((Zb s 64).1<30) then ZN.2.1 else bif decide ((Zb s 64).1<36) then ZN.2.1 else decide ((Zb s 64).1<40)||bif decide ((Zb s 64).1<46) then ZN.2.1 else bif decide ((Zb s 64).1<50) then ZN.2.1 else bif decide ((Zb s 64).1<53) then ZN.2.1 else bif decide ((Zb s 64).1<55) then ZN.2.1 else bif (Zb s 64).1==55 then ZN.2.1 else bif decide ((Zb s 64).1<60) then ZN.2.1 else (Zag (Zag (Zb s 64).2).2).1,bif decide ((Zb s 64).1<30) then ZN.2.2.1 else bif decide ((Zb s 64).1<36) then ZN.2.2.1 else bif decide ((Zb s 64).1<40) then ZN.2.2.1 else bif decide ((Zb s 64).1<46) then ZN.2.2.1 else bif decide ((Zb s 64).1<50) then ZN.2.2.1 else bif decide ((Zb s 64).1<53) then ZN.2.2.1 else bif decide ((Zb s 64).1<55) then ZN.2.2.1 else (Zb s 64).1==55||decide ((Zb s 64).1<60)&&ZN.2.2.1,bif decide ((Zb s 64).1<30) then ZN.2.2.2.1 else bif decide ((Zb s 64).1<36) then ZN.2.2.2.1 else bif decide ((Zb s 64).1<40) then ZN.2.2.2.1 else bif decide ((Zb s 64).1<46) then ZN.2.2.2.1 else bif decide ((Zb s 64).1<50) then ZN.2.2.2.1 else bif decide ((Zb s 64).1<53) then (Zb s 64).1==51 else bif decide ((Zb s 64).1<55) then ZN.2.2.2.1 else bif (Zb s 64).1==55 then ZN.2.2.2.1 else bif decide ((Zb s 64).1<60) then ZN.2.2.2.1 else (Zag (Zag (Zag (Zb s 64).2).2).2).1,bif decide ((Zb s 64).1<30) then ZN.2.2.2.2.1 else bif decide ((Zb s 64).1<36) then ZN.2.2.2.2.1 else bif decide ((Zb s 64).1<40) then ZN.2.2.2.2.1 else bif decide ((Zb s 64).1<46) then ZN.2.2.2.2.1 else bif decide ((Zb s 64).1<50) then ZN.2.2.2.2.1 else bif decide ((Zb s 64).1<53) then ZN.2.2.2.2.1 else decide ((Zb s 64).1<55)||bif (Zb s 64).1==55 then ZN.2.2.2.2.1 else decide ((Zb s 64).1<60)&&ZN.2.2.2.2.1,bif decide ((Zb s 64).1<30) then ZN.2.2.2.2.2.1 else bif decide ((Zb s 64).1<36) then ZN.2.2.2.2.2.1 else bif decide ((Zb s 64).1<40) then ZN.2.2.2.2.2.1 else bif decide ((Zb s 64).1<46) then ZN.2.2.2.2.2.1 else bif decide ((Zb s 64).1<50) then Int.tmod (Zb s 64).1 2==0 else bif decide ((Zb s 64).1<53) then ZN.2.2.2.2.2.1 else bif decide ((Zb s 64).1<55) then ZN.2.2.2.2.2.1 else bif (Zb s 64).1==55 then ZN.2.2.2.2.2.1 else bif decide ((Zb s 64).1<60) then ZN.2.2.2.2.2.1 else (Zag (Zag (Zag (Zag (Zb s 64).2).2).2).2).1,bif decide ((Zb s 64).1<30) then ZN.2.2.2.2.2.2.1 else bif decide ((Zb s 64).1<36) then ZN.2.2.2.2.2.2.1 else bif decide ((Zb s 64).1<40) then ZN.2.2.2.2.2.2.1 else bif decide ((Zb s 64).1<46) then ZN.2.2.2.2.2.2.1 else bif decide ((Zb s 64).1<50) then Int.tmod (Zb s 64).1 2==1 else bif decide ((Zb s 64).1<53) then ZN.2.2.2.2.2.2.1 else bif decide ((Zb s 64).1<55) then ZN.2.2.2.2.2.2.1 else bif (Zb s 64).1==55 then ZN.2.2.2.2.2.2.1 else bif decide ((Zb s 64).1<60) then ZN.2.2.2.2.2.2.1 else (Zag (Zag (Zag (Zag (Zag (Zb s 64).2).2).2).2).2).1,bif decide ((Zb s 64).1<30) then ZN.2.2.2.2.2.2.2.1 else bif decide ((Zb s 64).1<36) then ZN.2.2.2.2.2.2.2.1 else bif decide ((Zb s 64).1<40) then ZN.2.2.2.2.2.2.2.1 else bif decide ((Zb s 64).1<46) then ZN.2.2.2.2.2.2.2.1 else bif decide ((Zb s 64).1<50) then ZN.2.2.2.2.2.2.2.1 else decide ((Zb s 64).1<53)||bif decide ((Zb s 64).1<55) then ZN.2.2.2.2.2.2.2.1 else bif (Zb s 64).1==55 then ZN.2.2.2.2.2.2.2.1 else decide ((Zb s 64).1<60)&&ZN.2.2.2.2.2.2.2.1,bif decide ((Zb s 64).1<30) then ZN.2.2.2.2.2.2.2.2.1 else bif decide ((Zb s 64).1<36) then ZN.2.2.2.2.2.2.2.2.1 else bif decide ((Zb s 64).1<40) then ZN.2.2.2.2.2.2.2.2.1 else bif decide ((Zb s 64).1<46) then u8.wrap (Zb (Zb s 64).2 256).1 else bif decide ((Zb s 64).1<50) then ZN.2.2.2.2.2.2.2.2.1 else bif decide ((Zb s 64).1<53) then ZN.2.2.2.2.2.2.2.2.1 else bif decide ((Zb s 64).1<55) then ZN.2.2.2.2.2.2.2.2.1 else bif (Zb s 64).1==55 then ZN.2.2.2.2.2.2.2.2.1 else bif decide ((Zb s 64).1<60) then 1 else u8.wrap x8.1,bif decide ((Zb s 64).1<30) then u8.wrap (Zb s 64).1 else bif decide ((Zb s 64).1<36) then ZN.2.2.2.2.2.2.2.2.2 else bif decide ((Zb s 64).1<40) then ZN.2.2.2.2.2.2.2.2.2 else bif decide ((Zb s 64).1<46) then ZN.2.2.2.2.2.2.2.2.2 else bif decide ((Zb s 64).1<50) then ZN.2.2.2.2.2.2.2.2.2 else bif decide ((Zb s 64).1<53) then ZN.2.2.2.2.2.2.2.2.2 else bif decide ((Zb s 64).1<55) then ZN.2.2.2.2.2.2.2.2.2 else bif (Zb s 64).1==55 then ZN.2.2.2.2.2.2.2.2.2 else bif decide ((Zb s 64).1<60) then (Zal (Zb s 64).2).1 else u8.wrap x21.1),bif decide ((Zb s 64).1<30) then (Zb s 64).2.1 else bif decide ((Zb s 64).1<36) then (Zb s 64).2.1 else bif decide ((Zb s 64).1<40) then (Zb s 64).2.1 else bif decide ((Zb s 64).1<46) then (Zb (Zb s 64).2 256).2.1 else bif decide ((Zb s 64).1<50) then (Zb s 64).2.1 else bif decide ((Zb s 64).1<53) then (Zb s 64).2.1 else bif decide ((Zb s 64).1<55) then (Zb s 64).2.1 else bif (Zb s 64).1==55 then (Zb s 64).2.1 else bif decide ((Zb s 64).1<60) then (Zal (Zb s 64).2).2.1 else x22.1,bif decide ((Zb s 64).1<30) then (Zb s 64).2.2 else bif decide ((Zb s 64).1<36) then (Zb s 64).2.2 else bif decide ((Zb s 64).1<40) then (Zb s 64).2.2 else bif decide ((Zb s 64).1<46) then (Zb (Zb s 64).2 256).2.2 else bif decide ((Zb s 64).1<50) then (Zb s 64).2.2 else bif decide ((Zb s 64).1<53) then (Zb s 64).2.2 else bif decide ((Zb s 64).1<55) then (Zb s 64).2.2 else bif (Zb s 64).1==55 then (Zb s 64).2.2 else bif decide ((Zb s 64).1<60) then (Zal (Zb s 64).2).2.2 else x22.2))) Ln) Ln) Ln) Ln) Ln) Ln) Ln) Ln) Ln) Ln
def ZdP (s:List Int×Int):INPT×List Int×Int:=getO (ZIk.Df,ZBm.Df) (ZoE s).val
def Zil (s:List Int×Int):Bool:=okB (ZoE s).val
def ZoF:En:=boxE ZBm Zv5 ZIk (λa=>some (Zil a.1)) (λa=>ZdP a.1)
theorem ZoD:Za prog 138 ZoF:=
 ZcA (P:=prog) (n:=5036105318265824215071) (k:=8) (l:=[(35,ZTB),(36,ZcU),(53,Zhv),(205,ZSI)]) (ol:=[]) ⟨ZRw,Zbb,Zfp,ZPo,Tv⟩ Tryz.func138 rfl (by kernel_rfl) Tryz.call138 trivial (rb:=ZBm) (ts:=Zv5) (rs:=ZIk) (t:=λa=>ZoE a.1) (λa=>by kernel_rfl)
abbrev ZoB:Rs:=Rs.one (So (R.sl ZfL))
def ZHs:LS:={n:=39,Sl:=[(0,.fix (A.loc 0 0)),(5,.tip 0),(6,.code (So Kc)),(7,.fix (A.loc 1 0)),(8,.code (So Kc))],Bx:=[[.many (Pq (R.sl Kc) Kc)],[.many ZfL]],Sg:=[⟨ZfL,94,true⟩]}
def Zd7 (a:QT17):RT (Option (Go1 (QT17))):=
 let x1:List INPT:=a.2.2.2.2.1++[a.2.2.2.1]
 .br (decide (a.2.1>=0)&&decide (iN (Le a.2.2.2.2.1)<a.1)) (.br (Nat.ble (Le x1) most) (Ls (Go1.cont (a.1,i64.wrap (a.2.1-1),a.2.2.1,a.2.2.2.1,x1,PUnit.unit))) Ln) (Ls (Go1.brk (a.1,a.2.1,a.2.2.1,a.2.2.2.1,a.2.2.2.2.1,PUnit.unit)))
def Zhw:Ora:=Zbq false ZHs Zd7 (λa=>400)
theorem Zk5:Za1 (envX prog [(36,ZcU),(138,ZoF)] [] 511 8) (.block 2 (.loop (Z5 Tryz.f55.body 2))) Zhw:=
 loopP ⟨Zbb,ZoD,Tv⟩
def ZHr:LS:={n:=39,Sl:=[(0,.fix (A.loc 0 0)),(5,.tip 0),(6,.code (So Kc))],Bx:=[[.many (Pq (R.sl Kc) Kc)]],Sg:=[⟨ZfL,94,true⟩]}
def Zfq (a:QT25):RT (Option (Go1 (QT25))):=
 let x1:= !Zj (ZdP a.2.1).2 4||Zj (Zb (ZdP a.2.1).2 4).2 5
 let x2:= !x1
 let x3:QT17:=(a.1,i64.wrap ((Zb (ZdP a.2.1).2 4).1*(Zb (Zb (ZdP a.2.1).2 4).2 5).1),(Zb (Zb (ZdP a.2.1).2 4).2 5).2,(ZdP a.2.1).1,a.2.2.1,())
 let x4:=runF false Zd7 (λa_1=>400) x3
 let x5:QT17:=(getO (false,x3) x4).2
 let x6:=x5.2.2
 .br (decide (iN (Le a.2.2.1)<a.1)) (.br (!Zil a.2.1||(x2||(!Zj (ZdP a.2.1).2 4||okB x4))) (.br (!Zil a.2.1||(x2||Zj (ZdP a.2.1).2 4)) (.br (!Zil a.2.1||x1) (.br (Zil a.2.1) (Ls (Go1.cont (x5.1,x6.1,x6.2.2.1,PUnit.unit))) Ln) Ln) Ln) Ln) (Ls (Go1.brk (a.1,a.2.1,a.2.2.1,PUnit.unit)))
def ZqZ:Ora:=Zbq false ZHr Zfq (λa=>400)
theorem Zw2:Za1 (envX prog [(36,ZcU),(138,ZoF)] [(2,Zhw)] 511 8) (.block 0 (.loop (Z5 Tryz.f55.body 0))) ZqZ:=
 Zev (ZaT (l:=[(36,ZcU),(138,ZoF)]) ⟨Zbb,ZoD,Tv⟩ [(2,Zhw)] 511 8) (Zim (by kernel_rfl) (by kernel_rfl) ⟨Zk5,Tv⟩) (λa=>by kernel_rfl)
def Zjj (s:List Int×Int) (n:Int):RT (Option (List INPT×List Int×Int)):=
 let x1:QT25:=((Zb s (i64.wrap (n+1))).1,(Zb s (i64.wrap (n+1))).2,[],())
 let x2:=runF false Zfq (λa=>400) x1
 let x3:(List Int×Int)×List INPT×PUnit:=(getO (false,x1) x2).2.2
 .br (Zj s (i64.wrap (n+1))) (.br (okB x2) (Ls ((x3.2.1,x3.1))) Ln) Ln
def Zae (s:List Int×Int) (n:Int):List INPT×List Int×Int:=getO (ZoB.Df,ZBm.Df) (Zjj s n).val
def Zjk (s:List Int×Int) (n:Int):Bool:=okB (Zjj s n).val
def ZEB:En:=boxE ZBm Zwr ZoB (λa=>some (Zjk a.1 a.2)) (λa=>Zae a.1 a.2)
theorem ZHp:Za prog 55 ZEB:=
 ZcA (P:=prog) (n:=511) (k:=8) (l:=[(36,ZcU),(138,ZoF)]) (ol:=[(2,Zhw),(0,ZqZ)]) ⟨Zbb,ZoD,Tv⟩ Tryz.func55 rfl (by kernel_rfl) Tryz.call55 ⟨Zk5,Zw2,Tv⟩ (rb:=ZBm) (ts:=Zwr) (rs:=ZoB) (t:=λa=>Zjj a.1 a.2) (λa=>by kernel_rfl)
end
end Go.Proofs.YteaflmalcclnoaaGreatDoor
open Go Go.S3 Go.Proofs Go.Proofs.Cells
namespace Go.Proofs.YteaflmalcclnoaaGreatDoor
noncomputable section
variable {s:List Int×Int} {k:Int}
theorem NB.up {j:Int} (h:NB s k) (hj:k<=j):NB s j:=⟨h.1,by have:=h.2;omega⟩
theorem Zjl (h:NB s k) (hk:k<=1000000):Zbp s=true/\NB (Zag s).2 (k+1):=by obtain⟨c1,b,_⟩:=Zr h hk 2 (by decide) (by decide);simp only[Zbp,Zag,ZED,RT.val,c1,Ya,okB,getO];exact⟨trivial,b⟩
theorem Zby {a b:Nat} (h:a<=b):Nat.ble a b=true:=by rw[Yy];exact h
theorem ZBh (h:NB s k) (hk:k<=500000) (n:Nat) (hn:n<=100):
  ZbZ s (n:Int)=true/\NB (ZT s (n:Int)).2 (k+1+5*n)/\(ZT s (n:Int)).1.length<=n:=by
 have hms:=mst;have w0:wrap .i64 ((n:Int)+1)=(n:Int)+1:=wrap_i64 _ (by omega) (by omega);obtain⟨c1,b1,d0,d1⟩:=Zr h (by omega) ((n:Int)+1) (by omega) (by omega);obtain⟨L,N,hs1⟩:∃L N,(L,N)=(Zb s ((n:Int)+1)).2:=⟨_,_,rfl⟩;obtain⟨q,hq⟩:∃q:Nat,(Zb s ((n:Int)+1)).1=(q:Int):=⟨_,(Yab d0).symm⟩;rw[<-hs1] at b1;obtain⟨r,hr,h1,L',N',o,hs',ho,hR⟩:=ZK (fl:=false) (t:=ZbY) (fuel:=λa=>400)
  (λa=>∃(i:Nat) (L:List Int) (N:Int) (o:List ZS),i<=q/\NB (L,N) (k+1+5*((q-i:Nat):Int))/\o.length<=q-i/\a=((i:Int),(L,N),o,()))
  (λa=>Int.toNat a.1) (λr=>r.1=false/\∃(L:List Int) (N:Int) (o:List ZS),NB (L,N) (k+1+5*(q:Int))/\o.length<=q/\r.2=((0:Int),(L,N),o,()))
  (by
   rintro a ⟨i,L,N,o,hi,hs',ho,rfl⟩;cases i with
   |zero=>
    right;left;exact⟨_,by simp only[ZbY,RT.val];rfl,rfl,L,N,o,by simpa using hs',by omega,rfl⟩
   |succ i=>
    left;have d:decide (((i+1:Nat):Int)>0)=true:=Yz (by omega);obtain⟨kw,bw,_⟩:=ZEz hs' (by omega);obtain⟨k1,b1,e0,e1⟩:=Zr bw (by omega) 6 (by decide) (by decide);obtain⟨k2,b2,_⟩:=Zr b1 (by omega) 3 (by decide) (by decide);obtain⟨k3,b3,f0,f1⟩:=Zr b2 (by omega) 5 (by decide) (by decide);have r1:Zh (Zb (ZaR (L,N)).2 6).1 6=true:=ZP.2 ⟨e0,e1⟩;have r2:Zh (Zb (Zb (Zb (ZaR (L,N)).2 6).2 3).2 5).1 5=true:=ZP.2 ⟨f0,f1⟩;have hb:∀x:ZS,Nat.ble (o++[x]).length most=true:=λx=>Zby (by simp;omega)
    have w:wrap .i64 (((i+1:Nat):Int)-1)=(i:Int):=by rw[wrap_i64 _ (by omega) (by omega)];omega
    obtain⟨o',ho'⟩:∃o':List ZS,o'=o++[((ZaR (L,N)).1,u16.wrap (if 65535<i64.wrap (i64.wrap (ZaR (L,N)).1+R.get (R.int i64) [0,3,15,255,4095,65535] (Zb (ZaR (L,N)).2 6).1) then 65535 else i64.wrap (i64.wrap (ZaR (L,N)).1+R.get (R.int i64) [0,3,15,255,4095,65535] (Zb (ZaR (L,N)).2 6).1)),decide ((Zb (Zb (ZaR (L,N)).2 6).2 3).1>0),R.get (R.int i64) [0,0,1,2,5] (Zb (Zb (Zb (ZaR (L,N)).2 6).2 3).2 5).1)]:=⟨_,rfl⟩;refine⟨((i:Int),((Zb (Zb (Zb (ZaR (L,N)).2 6).2 3).2 5).2.1,(Zb (Zb (Zb (ZaR (L,N)).2 6).2 3).2 5).2.2),o',()),?_,⟨i,_,_,o',by omega,b3.up (by omega),by rw[ho'];simp;omega,rfl⟩,by simp only;omega⟩
    simp only[ZbY,RT.val,List.length_cons,List.length_nil,Nat.reduceAdd,d,kw,k1,k2,k3,r1,r2,hb,w,ho',Ya,Yh,Yj,Yk,Yx])
  ((q:Int),(L,N),[],()) ⟨q,L,N,[],Ye _,by simpa using b1,by simp,rfl⟩ (by simp only;omega)
 obtain⟨r1,r2⟩:=r;simp only at h1 hR;subst h1 hR;have hv:(Zeq s (n:Int)).val=some (o,L',N'):=by simp only[Zeq,RT.val,w0,c1,hq,<-hs1,hr,okB,getO,Ya]
 simp only[ZbZ,ZT,hv,okB,getO];exact⟨trivial,hs'.up (by omega),by omega⟩
theorem ZXL {l:List Cell} (h:l.length<=1000):smC l=true:=Zby (by have:=mst;omega)
variable {l:List Int}
theorem ZSX (h:l.length<=1000):smB l=true:=Zby (by have:=mst;omega)
theorem ZBn (h:NB s k) (hk:k<=400000):ZHo s=true/\NB (nMap s).2 (k+20)/\(nMap s).1.length<=3:=by
 obtain⟨c1,b1,l1⟩:=ZBh h (by omega) 2 (by omega);have c1:ZbZ s 2=true:=c1;have b1:NB (ZT s 2).2 (k+1+5*((2:Nat):Int)):=b1;have l1:(ZT s 2).1.length<=2:=l1;obtain⟨c2,b2,_⟩:=Zr b1 (by omega) 3 (by decide) (by decide);have hs:∀x:ZS,Nat.ble ((ZT s 2).1++[x]).length most=true:=λx=>Zby (by have:=mst;simp;omega)
 have hg:∀l:List ZS,Stg.l (newG Zd5 Zd6 l)=l:=λ_=>rfl
 have hv:(ZBo s).val=some ((ZT s 2).1++[(0,65535,true,wrap .i64 (Int.tdiv (Zb (ZT s 2).2 3).1 2))],(Zb (ZT s 2).2 3).2):=by simp only[ZBo,RT.val,hg,c1,c2,hs,Yh,Yj,Yk,Ya]
 refine⟨by simp only[ZHo,hv];rfl,?_,?_⟩
 ·simp only[nMap,hv,getO];exact b2.up (by omega)
 ·simp only[nMap,hv,getO];simp;omega
theorem ZBj (h:NB s k) (hk:k<=300000) (n:Nat) (hn:n<=20):
  ZgQ s (n:Int)=true/\NB (Zcb s (n:Int)).2 (k+1+10*n)/\(Zcb s (n:Int)).1.length<=12*n:=by
 have hms:=mst;have w0:wrap .i64 ((n:Int)+1)=(n:Int)+1:=wrap_i64 _ (by omega) (by omega);obtain⟨c1,b1,d0,d1⟩:=Zr h (by omega) ((n:Int)+1) (by omega) (by omega);obtain⟨s1,hs1⟩:∃s1,s1=(Zb s ((n:Int)+1)).2:=⟨_,rfl⟩;obtain⟨q,hq⟩:∃q:Nat,(Zb s ((n:Int)+1)).1=(q:Int):=⟨_,(Yab d0).symm⟩;rw[<-hs1] at b1;obtain⟨r,hr,h1,s',o,hs',ho,hR⟩:=ZK (fl:=false) (t:=Zdd) (fuel:=λa=>400)
  (λa=>∃(i:Nat) (s':List Int×Int) (o:List Int),i<=q/\NB s' (k+1+10*((q-i:Nat):Int))/\o.length<=12*(q-i)/\a=((i:Int),s',o,()))
  (λa=>Int.toNat a.1) (λr=>r.1=false/\∃(s':List Int×Int) (o:List Int),NB s' (k+1+10*(q:Int))/\o.length<=12*q/\r.2=((0:Int),s',o,()))
  (by
   rintro a ⟨i,s',o,hi,hs',ho,rfl⟩;cases i with
   |zero=>
    right;left;exact⟨_,by simp only[Zdd,RT.val];rfl,rfl,s',o,by simpa using hs',by omega,rfl⟩
   |succ i=>
    left;have d:decide (((i+1:Nat):Int)>0)=true:=Yz (by omega);have w:wrap .i64 (((i+1:Nat):Int)-1)=(i:Int):=by rw[wrap_i64 _ (by omega) (by omega)];omega
    obtain⟨k0,b0,_⟩:=Zr hs' (by omega) 8 (by decide) (by decide);obtain⟨k1,b1,e0,e1⟩:=Zr b0 (by omega) 4 (by decide) (by decide);obtain⟨k2,b2,_⟩:=Zr b1 (by omega) 256 (by decide) (by decide);obtain⟨k3,b3,f0,f1⟩:=Zr b2 (by omega) 4 (by decide) (by decide);obtain⟨k4,b4,_⟩:=ZlX b0 (by omega);obtain⟨k5,b5,_⟩:=Zr b4 (by omega) 8 (by decide) (by decide);obtain⟨k6,b6,_⟩:=Zr b0 (by omega) 16 (by decide) (by decide);obtain⟨k7,b7,_⟩:=ZlX b6 (by omega);obtain⟨k8,b8,_⟩:=Zkv b0 (by omega);obtain⟨k9,b9,_⟩:=Zr b8 (by omega) 64 (by decide) (by decide);obtain⟨ka,ba,g0,g1⟩:=Zr b9 (by omega) 4 (by decide) (by decide);have r1:Zh (Zb (Zb s' 8).2 4).1 4=true:=ZP.2 ⟨e0,e1⟩;have r2:Zh (Zb (Zb (Zb (Zb s' 8).2 4).2 256).2 4).1 4=true:=ZP.2 ⟨f0,f1⟩;have r3:Zh (Zb (Zb (Zal (Zb s' 8).2).2 64).2 4).1 4=true:=ZP.2 ⟨g0,g1⟩;have hb:∀x:List Int,x.length<=12->Nat.ble (o++x).length most=true:=λx hx=>Zby (by rw[Yd];omega)
    have q1:∀a b c:Int,Nat.ble (o++[a,b,c]).length most=true:=λa b c=>hb _ (by simp)
    have q2:∀a b c d:Int,Nat.ble (o++[a,b,c,d]).length most=true:=λa b c d=>hb _ (by simp)
    have q3:∀a:Int,Nat.ble (o++[a]).length most=true:=λa=>hb _ (by simp)
    have q4:∀a b c d e f g h i j k l:Int,Nat.ble (o++[a,b,c,d,e,f,g,h,i,j,k,l]).length most=true:=λa b c d e f g h i j k l=>hb _ (by simp)
    have hv:∃s2 x,x.length<=12/\NB s2 (k+1+10*((q-i:Nat):Int))/\(Zdd (((i+1:Nat):Int),s',o,())).val=some (Go1.cont ((i:Int),s2,o++x,())):=by
     simp only[Zdd,RT.val,List.length_cons,List.length_nil,Nat.reduceAdd,d,w,k0,k1,k2,k3,k4,k5,k6,k7,k8,k9,ka,r1,r2,r3,q1,q2,q3,q4,Ya,Yh,Yj,Yk,Yx];cases (Zb s' 8).1==0
     ·cases (Zb s' 8).1==1
      ·cases (Zb s' 8).1==2
       ·cases (Zb s' 8).1==3
        ·exact⟨_,[(Zal (Zb s' 8).2).1,wrap .u8 (Zb (Zal (Zb s' 8).2).2 64).1,R.get (R.int .u8) [0,0,1,255] (Zb (Zb (Zal (Zb s' 8).2).2 64).2 4).1],by simp,ba.up (by omega),rfl⟩
        ·exact⟨_,[62,wrap .u8 (wrap .i64 (16+(Zb (Zb s' 8).2 16).1)),211,0,62,(Zc3 (Zb (Zb s' 8).2 16).2).1,211,1,62,0,211,1],by simp,b7.up (by omega),rfl⟩
       ·exact⟨_,[251],by simp,b0.up (by omega),rfl⟩
      ·exact⟨_,[62,(Zc3 (Zb s' 8).2).1,211,wrap .u8 (Zb (Zc3 (Zb s' 8).2).2 8).1],by simp,b5.up (by omega),rfl⟩
     ·exact⟨_,[R.get (R.int .u8) [33,49,1,17] (Zb (Zb s' 8).2 4).1,wrap .u8 (Zb (Zb (Zb s' 8).2 4).2 256).1,R.get (R.int .u8) [0,0,1,255] (Zb (Zb (Zb (Zb s' 8).2 4).2 256).2 4).1],by simp,b3.up (by omega),rfl⟩
    obtain⟨s2,x,hx,hs2,hv⟩:=hv
    exact⟨_,hv,⟨i,s2,o++x,by omega,hs2,by rw[Yd];omega,rfl⟩,by simp only;omega⟩)
  ((q:Int),s1,[],()) ⟨q,s1,[],Ye _,by simpa using b1,by simp,rfl⟩ (by simp only;omega)
 obtain⟨r1,r2⟩:=r;simp only at h1 hR;subst h1 hR;have hv:(ZgP s (n:Int)).val=some (o,s'):=by simp only[ZgP,RT.val,w0,c1,hq,<-hs1,hr,okB,getO,Ya]
 simp only[ZgQ,Zcb,hv,okB,getO];exact⟨trivial,hs'.up (by omega),by omega⟩
theorem Zxl (t:Int) (b:List Int):(ZoT t b).length<=b.length:=by have:=Zeo (ZoV t b b.length);rw[ZoU] at this;exact this
theorem ZM5 (h:NB s k) (hk:k<=300000):Zil s=true/\NB (ZdP s).2 (k+20):=by
 obtain⟨c1,b1,_⟩:=Zr h (by omega) 64 (by decide) (by decide);obtain⟨c2,b2,_⟩:=Zr b1 (by omega) 256 (by decide) (by decide);obtain⟨c3,b3,_⟩:=Zkv b1 (by omega);obtain⟨f1,g1⟩:=Zjl b1 (by omega);obtain⟨f2,g2⟩:=Zjl g1 (by omega);obtain⟨f3,g3⟩:=Zjl g2 (by omega);obtain⟨f4,g4⟩:=Zjl g3 (by omega);obtain⟨f5,g5⟩:=Zjl g4 (by omega);obtain⟨c4,b4,_⟩:=Zr g5 (by omega) 256 (by decide) (by decide);obtain⟨c5,b5,_⟩:=Zr b4 (by omega) 256 (by decide) (by decide);have hv:∃c s',(ZoE s).val=some (c,s')/\NB s' (k+20):=by
  simp only[ZoE,RT.val,c1,c2,c3,c4,c5,f1,f2,f3,f4,f5,Ya,Yh,Yj,Yk,Yx];cases decide ((Zb s 64).1<30) with
  |true=>exact⟨_,_,rfl,b1.up (by omega)⟩
  |false=>
  cases decide ((Zb s 64).1<36) with
  |true=>exact⟨_,_,rfl,b1.up (by omega)⟩
  |false=>
  cases decide ((Zb s 64).1<40) with
  |true=>exact⟨_,_,rfl,b1.up (by omega)⟩
  |false=>
  cases decide ((Zb s 64).1<46) with
  |true=>exact⟨_,_,rfl,b2.up (by omega)⟩
  |false=>
  cases decide ((Zb s 64).1<50) with
  |true=>exact⟨_,_,rfl,b1.up (by omega)⟩
  |false=>
  cases decide ((Zb s 64).1<53) with
  |true=>exact⟨_,_,rfl,b1.up (by omega)⟩
  |false=>
  cases decide ((Zb s 64).1<55) with
  |true=>exact⟨_,_,rfl,b1.up (by omega)⟩
  |false=>
  cases ((Zb s 64).1==55) with
  |true=>exact⟨_,_,rfl,b1.up (by omega)⟩
  |false=>
  cases decide ((Zb s 64).1<60) with
  |true=>exact⟨_,_,rfl,b3.up (by omega)⟩
  |false=>exact⟨_,_,rfl,b5.up (by omega)⟩
 obtain⟨c,s',hv,h1⟩:=hv;simp only[Zil,ZdP,hv,okB,getO];exact⟨trivial,h1⟩
theorem ZWN (s:List Int×Int) (z:Int) (c:INPT) (kk:Nat) (hk:kk<300) (o:List INPT) (size:Nat) (ho:o.length<=size) (hz:size<=300):
  ∃k2 o2,runF false Zd7 (λ_=>400) ((size:Int),(kk:Int),s,c,o,())=some (false,(size:Int),k2,s,c,o2,())/\o2.length<=size/\o.length<=o2.length/\(o.length<size->o.length<o2.length):=by
 have hms:=mst;obtain⟨r,hr,h1,k2,o2,e1,e2,e3,e4⟩:=ZK (fl:=false) (t:=Zd7) (fuel:=λ_=>400)
  (λa=>∃(j:Nat) (o2:List INPT),j<=kk+1/\o2.length<=size/\o.length<=o2.length/\(j=kk+1\/o.length<o2.length)/\a=((size:Int),(j:Int)-1,s,c,o2,()))
  (λa=>Int.toNat (a.2.1+1)) (λr=>r.1=false/\∃k2 o2,r.2=((size:Int),k2,s,c,o2,())/\o2.length<=size/\o.length<=o2.length/\(o.length<size->o.length<o2.length))
  (by
   rintro a ⟨j,o2,hj,h2,h3,h4,rfl⟩;have w:∀j:Nat,j<=1000->wrap .i64 (((j:Nat):Int)-1-1)=(j:Int)-1-1:=λj hj=>wrap_i64 _ (by omega) (by omega)
   by_cases hc:1<=j/\o2.length<size
   ·left;have d1:decide (((j:Nat):Int)-1>=0)=true:=Yz (by omega);have d2:decide (iN o2.length<(size:Int))=true:=Yz (by simp only[iN,Le];omega);have hb:Nat.ble (o2++[c]).length most=true:=Zby (by simp;omega);refine⟨((size:Int),(j:Int)-1-1,s,c,o2++[c],()),?_,⟨j-1,o2++[c],by omega,by simp;omega,by simp;omega,by right;simp;omega,?_⟩,by simp only;omega⟩
    ·simp only[Zd7,RT.val,d1,d2,hb,Y1,Ya,w j (by omega)]
    ·have:((j:Nat):Int)-1=((j-1:Nat):Int):=by omega
     rw[this]
   ·right;left;have d:(decide (((j:Nat):Int)-1>=0)&&decide (iN o2.length<(size:Int)))=false:=by simp only[iN,Le,Yan,Y5];omega
    exact⟨((size:Int),(j:Int)-1,s,c,o2,()),by simp only[Zd7,RT.val,d,Yc],rfl,_,o2,rfl,h2,h3,λh=>by
     rcases h4 with h4|h4
     ·omega
     ·exact h4⟩)
  ((size:Int),(kk:Int),s,c,o,()) ⟨kk+1,o,Ye _,ho,Ye _,.inl rfl,by
   have:(kk:Int)=((kk+1:Nat):Int)-1:=by omega
   rw[<-this]⟩ (by simp only;omega)
 obtain⟨r1,r2⟩:=r;simp only at h1 e1;subst h1 e1;exact⟨k2,o2,hr,e2,e3,e4⟩
theorem ZHq (h:NB s k) (hk:k<=100000) (n:Nat) (hn:n<=250):
  Zjk s (n:Int)=true/\NB (Zae s (n:Int)).2 (k+1+30*n)/\(Zae s (n:Int)).1.length<=n:=by
 have hms:=mst;have w0:wrap .i64 ((n:Int)+1)=(n:Int)+1:=wrap_i64 _ (by omega) (by omega);obtain⟨c1,b1,d0,d1⟩:=Zr h (by omega) ((n:Int)+1) (by omega) (by omega);obtain⟨s1,hs1⟩:∃s1,s1=(Zb s ((n:Int)+1)).2:=⟨_,rfl⟩;obtain⟨q,hq⟩:∃q:Nat,(Zb s ((n:Int)+1)).1=(q:Int):=⟨_,(Yab d0).symm⟩;rw[<-hs1] at b1;obtain⟨r,hr,h1,s',o,hs',ho,hR⟩:=ZK (fl:=false) (t:=Zfq) (fuel:=λa=>400)
  (λa=>∃(s':List Int×Int) (o:List INPT),NB s' (k+1+30*(o.length:Int))/\o.length<=q/\a=((q:Int),s',o,()))
  (λa=>Int.toNat a.1-a.2.2.1.length) (λr=>r.1=false/\∃(s':List Int×Int) (o:List INPT),NB s' (k+1+30*(q:Int))/\o.length<=q/\r.2=((q:Int),s',o,()))
  (by
   rintro a ⟨s',o,hs',ho,rfl⟩;by_cases hc:o.length<q
   ·left;have d:decide (iN o.length<(q:Int))=true:=Yz (by simp only[iN,Le];omega);obtain⟨i1,g1⟩:=ZM5 hs' (by omega);obtain⟨i2,g2,m0,m1⟩:=Zr g1 (by omega) 4 (by decide) (by decide);obtain⟨i3,g3,m2,m3⟩:=Zr g2 (by omega) 5 (by decide) (by decide);obtain⟨x,hx⟩:∃x:Nat,(Zb (ZdP s').2 4).1=(x:Int):=⟨_,(Yab m0).symm⟩;obtain⟨y,hy⟩:∃y:Nat,(Zb (Zb (ZdP s').2 4).2 5).1=(y:Int):=⟨_,(Yab m2).symm⟩;have hxy:x*y<=3*4:=Nat.mul_le_mul (by omega) (by omega);have w:wrap .i64 ((x:Int)*(y:Int))=((x*y:Nat):Int):=by rw[show (x:Int)*(y:Int)=((x*y:Nat):Int) by simp,wrap_i64 _ (by omega) (by omega)]
    obtain⟨k2,o2,hr,e2,e3,e4⟩:=ZWN (Zb (Zb (ZdP s').2 4).2 5).2 0 (ZdP s').1 (x*y) (by omega) o q ho (by omega);have e5:=e4 hc;refine⟨((q:Int),(Zb (Zb (ZdP s').2 4).2 5).2,o2,()),?_,⟨_,o2,g3.up (by omega),e2,rfl⟩,by simp only;omega⟩;simp only[Zfq,RT.val,d,i1,i2,i3,hx,hy,w,hr,okB,getO,Ya,Yh,Yj,Yk,Yx]
   ·right;left;have d:decide (iN o.length<(q:Int))=false:=YR (by simp only[iN,Le];omega)
    exact⟨_,by simp only[Zfq,RT.val,d,Yc],rfl,s',o,hs'.up (by omega),ho,rfl⟩)
  ((q:Int),s1,[],()) ⟨s1,[],by simpa using b1,by simp,rfl⟩ (by simp only[List.length_nil];omega)
 obtain⟨r1,r2⟩:=r;simp only at h1 hR;subst h1 hR;have hv:(Zjj s (n:Int)).val=some (o,s'):=by simp only[Zjj,RT.val,w0,c1,hq,<-hs1,hr,okB,getO,Ya]
 simp only[Zjk,Zae,hv,okB,getO];exact⟨trivial,hs'.up (by omega),by omega⟩
theorem Zw5 (h:NB s k) (hk:k<=10000):
  ZoJ s=true/\NB (Zcs s).2 (k+300)/\(∃s1,NB s1 (k+1)/\(Zcs s).1.2.1=(nMap s1).1)/\((Zcs s).1.1=1\/(Zcs s).1.1=2)/\
   (0<=(Zcs s).1.2.2.1/\(Zcs s).1.2.2.1<=2)/\∃l:List Cell,l.length<=200/\(Zcs s).1.2.2.2.2.2.2=normX l:=by
 have hms:=mst;obtain⟨c0,b0,hch⟩:=ZRx h (by omega);obtain⟨c1,b1,l1⟩:=ZBn b0 (by omega);obtain⟨c2,b2,w0,w1⟩:=Zr b1 (by omega) 3 (by decide) (by decide);obtain⟨c3,b3,_⟩:=Zr b2 (by omega) 4 (by decide) (by decide);obtain⟨c4,b4,_⟩:=Zr b3 (by omega) 6 (by decide) (by decide);obtain⟨c5,b5,_⟩:=ZlX b4 (by omega);obtain⟨c6,b6,_⟩:=ZlX b5 (by omega)
 obtain⟨s2,hs2,b7⟩:∃s2,s2=((bif (Zb (Zb (Zb (nMap (Za0 s).2).2 3).2 4).2 6).1==0 then (Zc3 (Zc3 (Zb (Zb (Zb (nMap (Za0 s).2).2 3).2 4).2 6).2).2).2.1 else (Zb (Zb (Zb (nMap (Za0 s).2).2 3).2 4).2 6).2.1,
   bif (Zb (Zb (Zb (nMap (Za0 s).2).2 3).2 4).2 6).1==0 then (Zc3 (Zc3 (Zb (Zb (Zb (nMap (Za0 s).2).2 3).2 4).2 6).2).2).2.2 else (Zb (Zb (Zb (nMap (Za0 s).2).2 3).2 4).2 6).2.2):List Int×Int)/\NB s2 (k+30):=by
  refine⟨_,rfl,?_⟩;cases (Zb (Zb (Zb (nMap (Za0 s).2).2 3).2 4).2 6).1==0
  ·exact b4.up (by omega)
  ·exact b6.up (by omega)
 obtain⟨c8,b8,l8⟩:=ZBj b7 (by omega) 12 (by omega);have c8:ZgQ s2 12=true:=c8;have b8:NB (Zcb s2 12).2 (k+30+1+10*((12:Nat):Int)):=b8;have l8:(Zcb s2 12).1.length<=12*12:=l8;obtain⟨c9,b9,d0,d1⟩:=Zr b8 (by omega) 4 (by decide) (by decide);have hl:=Zxl 0 (Zcb s2 12).1;obtain⟨q,hq⟩:∃q:Nat,(Zb (Zcb s2 12).2 4).1=(q:Int):=⟨_,(Yab d0).symm⟩;have hg:∀l:List Cell,Stg.l (newG ZcQ ZrC l)=l:=λ_=>rfl
 have key:∀x y z:BRDT,∀o:List Cell,o.length<=144->∃s' o',NB s' (k+200)/\o'.length<=200/\
   runF false Zfr (λ_=>400) ((q:Int),(Zb (Zcb s2 12).2 4).2,x,y,o,())=some (false,0,s',x,y,o',()):=by
  intro x y z o ho;obtain⟨r,hr,h1,s',o',g1,g2,g3⟩:=ZK (fl:=false) (t:=Zfr) (fuel:=λ_=>400)
   (λa=>∃(i:Nat) (s':List Int×Int) (o:List Cell),i<=q/\NB s' (k+30+1+10*((12:Nat):Int)+1+4*((q-i:Nat):Int))/\o.length<=144+3*(q-i)/\a=((i:Int),s',x,y,o,()))
   (λa=>Int.toNat a.1) (λr=>r.1=false/\∃s' o',NB s' (k+200)/\o'.length<=200/\r.2=(0,s',x,y,o',()))
   (by
    rintro a ⟨i,s',o,hi,hs',ho,rfl⟩;cases i with
    |zero=>
     right;left;exact⟨_,by simp only[Zfr,RT.val];rfl,rfl,s',o,hs'.up (by omega),by omega,rfl⟩
    |succ i=>
     left;have d:decide (((i+1:Nat):Int)>0)=true:=Yz (by omega);have w:wrap .i64 (((i+1:Nat):Int)-1)=(i:Int):=by rw[wrap_i64 _ (by omega) (by omega)];omega
     obtain⟨k0,b0,e0,e1⟩:=Zr hs' (by omega) 6 (by decide) (by decide);obtain⟨k1,b1,_⟩:=Zkv b0 (by omega);have r1:Zh (Zb s' 6).1 6=true:=ZP.2 ⟨e0,e1⟩;have hsb:∀a b c:Int,smB [a,b,c]=true:=λa b c=>ZSX (by simp)
     have hll:=Zxl (wrap .u16 (R.get (R.int .i64) [36,60,52,44,56,32] (Zb s' 6).1)) [(Zal (Zb s' 6).2).1,251,201];simp only[List.length_cons,List.length_nil] at hll;have hb:Nat.ble (o++ZoT (wrap .u16 (R.get (R.int .i64) [36,60,52,44,56,32] (Zb s' 6).1)) [(Zal (Zb s' 6).2).1,251,201]).length most=true:=Zby (by rw[Yd];omega);refine⟨((i:Int),(Zal (Zb s' 6).2).2,x,y,o++ZoT (wrap .u16 (R.get (R.int .i64) [36,60,52,44,56,32] (Zb s' 6).1)) [(Zal (Zb s' 6).2).1,251,201],()),?_,⟨i,_,_,by omega,b1.up (by omega),by rw[Yd];omega,rfl⟩,by simp only;omega⟩
     simp only[Zfr,RT.val,hg,List.length_cons,List.length_nil,Nat.reduceAdd,d,w,k0,k1,r1,hsb,hb,Ya,Yh,Yj,Yk,Yx])
   ((q:Int),(Zb (Zcb s2 12).2 4).2,x,y,o,()) ⟨q,_,o,Ye _,b9.up (by omega),by omega,rfl⟩ (by simp only;omega)
  obtain⟨r1,r2⟩:=r;simp only at h1 g3;subst h1 g3;exact⟨s',o',g1,g2,hr⟩
 obtain⟨s',o',g1,g2,hr⟩:=key (0,[],0,0,0,false,[]) ((Za0 s).1,(nMap (Za0 s).2).1,(Zb (nMap (Za0 s).2).2 3).1,bif (Zb (Zb (Zb (nMap (Za0 s).2).2 3).2 4).2 6).1==0 then (Zc3 (Zb (Zb (Zb (nMap (Za0 s).2).2 3).2 4).2 6).2).1 else 0,
  bif (Zb (Zb (Zb (nMap (Za0 s).2).2 3).2 4).2 6).1==0 then (Zc3 (Zc3 (Zb (Zb (Zb (nMap (Za0 s).2).2 3).2 4).2 6).2).2).1 else 4,(Zb (Zb (nMap (Za0 s).2).2 3).2 4).1==0,[]) (0,[],0,0,0,false,[]) (ZoT 0 (Zcb s2 12).1) (by omega)
 have hsc:smC o'=true:=ZXL (by omega);have hsb:smB (Zcb s2 12).1=true:=ZSX (by omega);have hv:∃p d,(ZoI s).val=some (((Za0 s).1,(nMap (Za0 s).2).1,(Zb (nMap (Za0 s).2).2 3).1,p,d,(Zb (Zb (nMap (Za0 s).2).2 3).2 4).1==0,normX o'),s'):=by
  refine⟨bif (Zb (Zb (Zb (nMap (Za0 s).2).2 3).2 4).2 6).1==0 then (Zc3 (Zb (Zb (Zb (nMap (Za0 s).2).2 3).2 4).2 6).2).1 else 0,
   bif (Zb (Zb (Zb (nMap (Za0 s).2).2 3).2 4).2 6).1==0 then (Zc3 (Zc3 (Zb (Zb (Zb (nMap (Za0 s).2).2 3).2 4).2 6).2).2).1 else 4,?_⟩
  simp only[ZoI,RT.val,hg,<-hs2,c0,c1,c2,c3,c4,c5,c6,c8,c9,hsb,hq,hr,hsc,okB,getO,Ya,Yh,Yj,Yk,Yx]
 obtain⟨p,d,hv⟩:=hv;have e1:ZoJ s=true:=by simp only[ZoJ,hv];rfl
 have e2:Zcs s=(((Za0 s).1,(nMap (Za0 s).2).1,(Zb (nMap (Za0 s).2).2 3).1,p,d,(Zb (Zb (nMap (Za0 s).2).2 3).2 4).1==0,normX o'),s'):=by simp only[Zcs,hv,getO]
 rw[e2];exact⟨e1,g1.up (by omega),⟨_,b0,rfl⟩,hch,⟨w0,by show (Zb (nMap (Za0 s).2).2 3).1<=2;omega⟩,o',g2,rfl⟩
theorem ZUi (s:Int) {l:Int} (h:0<=l):vOnC s l=true:=by simp only[vOnC,vOnT,RT.val,Yz h,Ya,okB]
theorem Zrw (s k:Int):ZiA s k=true/\ -1<=Zdt s k/\Zdt s k<=7:=by
 obtain⟨r,hr,h0,h1,h2⟩:=ZK (fl:=false) (t:=Zdp) (fuel:=λ_=>9)
  (λa=>∃(i:Nat) (m:Int),i<=8/\ -1<=m/\m<=7/\a=(s,k,m,(i:Int),()))
  (λa=>Int.toNat (8-a.2.2.2.1)) (λr=>r.1=false/\ -1<=r.2.2.2.1/\r.2.2.2.1<=7)
  (by
   rintro a ⟨i,m,hi,h1,h2,rfl⟩;by_cases hlt:i<8
   ·left;have d:decide ((i:Int)<8)=true:=Yz (by omega);have w:wrap .i64 ((i:Int)+1)=((i+1:Nat):Int):=by rw[wrap_i64 _ (by omega) (by omega)];omega
    have c:vOnC s (i:Int)=true:=ZUi s (by omega);refine⟨(s,k,bif vOn s (i:Int)&&(decide (m<0)||decide (Zc9 (i:Int) k<Zc9 m k)) then (i:Int) else m,((i+1:Nat):Int),()),by simp only[Zdp,RT.val,d,c,w,Ya],⟨i+1,_,by omega,?_,?_,rfl⟩,by simp only;omega⟩
    ·cases vOn s (i:Int)&&(decide (m<0)||decide (Zc9 (i:Int) k<Zc9 m k))<;>simp only[Ya,Yc]<;>omega
    ·cases vOn s (i:Int)&&(decide (m<0)||decide (Zc9 (i:Int) k<Zc9 m k))<;>simp only[Ya,Yc]<;>omega
   ·right;left;have d:decide ((i:Int)<8)=false:=YR (by omega)
    exact⟨(s,k,m,(i:Int),()),by simp only[Zdp,RT.val,d,Yc],rfl,h1,h2⟩)
  (s,k,-1,0,()) ⟨0,-1,by omega,by omega,by omega,rfl⟩ (by simp only;omega)
 obtain⟨r1,r2⟩:=r;simp only at h0 h1 h2;subst h0;have hv:(Zmo s k).val=some r2.2.2.1:=by simp only[Zmo,RT.val,hr,okB,getO,Ya]
 exact⟨by simp only[ZiA,hv];rfl,by simp only[Zdt,hv,getO];exact h1,by simp only[Zdt,hv,getO];exact h2⟩
theorem Zyo (p:PICT):Zrv p=true/\ -1<=vPck p/\vPck p<=7:=by
 have key:∀r m s k q,∃v:Int,(Zmn r m s k q).val=some v/\ -1<=v/\v<=7:=by
  intro r m s k q;have h1:=Zrw (Z1 .u8 r m) k;have h2:=Zrw (ZcK m s q) k;simp only[Zmn,RT.val,h1.1,h2.1,Ya];cases decide (Zdt (Z1 .u8 r m) k>=0)&&(decide (Zdt (ZcK m s q) k<0)||decide (Zc9 (Zdt (Z1 .u8 r m) k) k<Zc9 (Zdt (ZcK m s q) k) k))
  ·exact⟨-1,rfl,by omega,by omega⟩
  ·exact⟨_,rfl,h1.2.1,h1.2.2⟩
 obtain⟨v,hv,h1,h2⟩:=key (vReq p) p.2.2.2.2.2.2.2.2.2.2.2.2.2.2.2.1 p.2.2.2.2.2.2.2.2.2.2.2.2.2.2.1 p.2.2.2.2.2.2.2.2.2.2.2.2.2.2.2.2.1 p.2.2.2.2.2.2.2.2.2.1;have e:(ZFz p).val=some v:=by simp only[ZFz,RT.val,Zva,ZFy,hv,okB,getO,Ya]
 exact⟨by simp only[Zrv,e];rfl,by simp only[vPck,e,getO];exact h1,by simp only[vPck,e,getO];exact h2⟩
variable {x:Int}
theorem ZCs (p:PICT) (h:0<=x):ZhN p x=true:=by simp only[ZhN,Zu7,RT.val,Yz h,Ya,okB]
theorem ZCu (p:PICT) (h:0<=x):ZiB p x=true:=by simp only[ZiB,ZCv,RT.val,Yz h,Ya,okB]
theorem ZUn (p:PICT):ZPw p=true:=by
 have h1:=(Zyo p).1;have h3:∀q:PICT,ZiB q (andI .i64 p.2.2.2.2.2.2.2.2.2.2.2.2.2.2.2.2.2.2.1 7)=true:=λq=>ZCu q (and7 _).1
 have h2:∀q:PICT,(!decide (vPck p>=0)||ZhN q (vPck p))=true:=λq=>by
  by_cases h:vPck p>=0
  ·rw[ZCs q h,Yk]
  ·rw[YR h];rfl
 unfold ZPw ZIv;simp only[RT.val,h1,h2,h3,Yk,Ya];cases p.2.2.2.2.2.2.2.2.2.2.2.2.2.2.2.2.2.1==0
 ·cases p.2.2.2.2.2.2.2.2.2.2.2.2.2.2.2.2.2.1==1
  ·rfl
  ·cases p.2.2.1<;>rfl
 ·rfl
theorem ZPs (p:PICT) (h:Bool):ZCt p h=true:=by
 have h1:=(Zyo p).1;unfold ZCt Zu9;by_cases hx:0<=vPck p
 ·have h2:∀q:PICT,ZhN q (vPck p)=true:=λq=>ZCs q hx
  have h3:∀q:PICT,ZiB q (vPck p)=true:=λq=>ZCu q hx
  simp only[RT.val,h1,h2,h3,ZbO,ZaW,Yk,Yh,Ya];cases h
  ·cases p.2.2.2.2.2.2.2.2.2.2.2.1
   ·cases p.2.2.2.2.2.2.2.2.2.2.1<;>rfl
   ·cases decide (vPck p<0)<;>rfl
  ·rfl
 ·have h2:decide (vPck p<0)=true:=Yz (by omega);simp only[RT.val,h1,h2,ZbO,ZaW,Yk,Yw,Yh,Ya];cases h
  ·cases p.2.2.2.2.2.2.2.2.2.2.2.1
   ·cases p.2.2.2.2.2.2.2.2.2.2.1<;>rfl
   ·rfl
  ·rfl
theorem ZPu (p:PICT) (v:Int):Zvc p v=true:=by
 have h1:=λs k=>(Zrw s k).1
 have h2:∀x:Int,(!decide (x>=0)||decide (0<=x))=true:=λx=>by by_cases h:0<=x<;>simp[h]
 have h3:decide (0<=wrap .i64 (andI .u8 v 7))=true:=by have:=ZZp v;rw[wrap_i64 _ (by omega) (by omega)];exact Yz this.1
 unfold Zvc Zvb;simp only[RT.val,h1,h2,h3,ZbO,ZaW,Yk,Yh,Ya];rfl
theorem ZIq (p:PICT) (h:Bool) (v:Int):Zrt p h v=true:=by
 unfold Zrt Zmk;simp only[RT.val,ZPu,Yk,Ya];cases h
 ·cases andI .u8 v 16 !=0
  ·cases andI .u8 v 8==0<;>rfl
  ·rfl
 ·rfl
theorem ZeN (o:Bool) {n:Int} (h:0<=n):ZfE o n=true:=by simp only[ZfE,ZPq,RT.val,Yz h,Yk,Ya];cases o<;>rfl
theorem ZFw (l:List INPT) (hl:l.length<=1000):ZCo l=true/\(Zmi l).length=4*l.length:=by
 have hms:=mst;obtain⟨r,hr,h0,h1⟩:=ZK (fl:=false) (t:=Zd4) (fuel:=λ_=>1000000000000)
  (λa=>∃(i:Nat) (o:List Int),i<=l.length/\o.length=4*i/\a=(l,(l.length:Int),(i:Int),o,()))
  (λa=>Int.toNat (a.2.1-a.2.2.1)) (λr=>r.1=false/\r.2.2.2.2.1.length=4*l.length)
  (by
   rintro a ⟨i,o,hi,ho,rfl⟩;by_cases hlt:i<l.length
   ·left;have d:decide ((i:Int)<(l.length:Int))=true:=Yz (by omega);have d2:decide ((i:Int)>=65536)=false:=YR (by omega);have hin:Zh (i:Int) l.length=true:=ZP.2 ⟨by omega,by omega⟩;have w:wrap .i64 ((i:Int)+1)=((i+1:Nat):Int):=by rw[wrap_i64 _ (by omega) (by omega)];omega
    have hb:∀a b c d:Int,Nat.ble (o++[a,b,c,d]).length most=true:=λa b c d=>Zby (by simp;omega)
    have b0:=λx=>ZeN x (n:=0) (by decide)
    have b1:=λx=>ZeN x (n:=1) (by decide)
    have b2:=λx=>ZeN x (n:=2) (by decide)
    have b3:=λx=>ZeN x (n:=3) (by decide)
    have b4:=λx=>ZeN x (n:=4) (by decide)
    have b5:=λx=>ZeN x (n:=5) (by decide)
    have b6:=λx=>ZeN x (n:=6) (by decide)
    have b7:=λx=>ZeN x (n:=7) (by decide)
    have hv:∃a b c d:Int,(Zd4 (l,(l.length:Int),(i:Int),o,())).val=some (Go1.cont (l,(l.length:Int),((i+1:Nat):Int),o++[a,b,c,d],())):=by simp only[Zd4,RT.val,d,d2,hin,w,hb,b0,b1,b2,b3,b4,b5,b6,b7,ZbO,ZaW,Yk,Yh,Yj,Yx,Ya,Yc];exact⟨_,_,_,_,rfl⟩
    obtain⟨a,b,c,d,hv⟩:=hv;exact⟨_,hv,⟨i+1,_,by omega,by simp;omega,rfl⟩,by simp only;omega⟩
   ·right;left;have d:decide ((i:Int)<(l.length:Int))=false:=YR (by omega)
    exact⟨(l,(l.length:Int),(i:Int),o,()),by simp only[Zd4,RT.val,d,Yc],rfl,by simp only;omega⟩)
  (l,(l.length:Int),0,[],()) ⟨0,[],by omega,rfl,rfl⟩ (by simp only;omega)
 obtain⟨r1,r2⟩:=r;simp only at h0 h1;subst h0;have hv:(Zg8 l).val=some r2.2.2.2.1:=by simp only[Zg8,RT.val,iN,Le,hr,okB,getO,Ya]
 exact⟨by simp only[ZCo,hv];rfl,by simp only[Zmi,hv,getO];exact h1⟩
abbrev MacT:=List ZS×List Cell×List Int×List (Int×Int)
theorem Zmb (l:List ZS) (m:List Cell) (t v:Int):(ZcB l m t v).length<=m.length+1:=by
 have h:=Zeo m;unfold ZcB;cases decide (Zcv l t>=0)&&(R.get GR l (Zcv l t)).2.2.1
 ·exact YD h (YaW _)
 ·exact YD (Zso _ _) (by omega)
def pre (o:List (Int×Int)) (m:MacT):MacT:=(m.1,m.2.1,m.2.2.1,o++m.2.2.2)
theorem smCb {l:List Cell} (h:l.length<=1000000):smC l=true:=Zby (by have:=mst;omega)
theorem smGb {l:List ZS} (h:l.length<=1000000):smG l=true:=Zby (by have:=mst;omega)
def Zt (b:BRDT) (s:SYST) (i:INPT):SYST:=(s.1,s.2.1,(bif !b.2.2.2.2.2.1 then ZkW s.2.2.1 i.2.2.2.2.2.2.2.2.1 else s.2.2.1),s.2.2.2)
def Zbr (b:BRDT) (s:SYST) (i:INPT):LINT:=
 (i.1&&decide (ZcD s>=ZT9 b s.1.2.2.2.1),i.2.1||Zaa s.2.2.2.1,i.2.2.1,i.2.2.2.1,i.2.2.2.2.1,i.2.2.2.2.2.1,i.2.2.2.2.2.2.1,i.2.2.2.2.2.2.2.1,
  bif b.2.2.2.2.2.1 then andI .u8 i.2.2.2.2.2.2.2.2.1 1==1 else vInt s.2.2.1)
def busS (b:BRDT) (s:SYST) (i:INPT):SYST×Int:=
 let x:=s.1.2.2.2.1
 let q:=Ze9 b (wrap .u8 x.2.1)
 let d:=Zix b (wrap .u8 x.2.1)
 bif i.2.2.1||(Zq s.1 !=3|| !Zba x.1) then (s,0) else
 bif decide (x.1>=1)&&decide (x.1<=5) then (s,ZkZ b.2.1 s.2.1 x.2.1) else
 bif x.1 !=6&&b.2.2.2.2.2.1 then (s,i.2.2.2.2.2.2.2.2.2) else
 bif x.1 !=6 then ((s.1,s.2.1,(vAck s.2.2.1).1,s.2.2.2),(vAck s.2.2.1).2) else
 bif q.2 then ((s.1,s.2.1,(ZpL s.2.2.1 q.1).1,s.2.2.2),(ZpL s.2.2.1 q.1).2) else
 bif d.2 then (s,Zmm s.2.2.2.1 d.1) else (s,i.2.2.2.2.2.2.2.2.2)
def Zqa (b:BRDT) (s:SYST) (x:TY):SYST:=
 let q:=Ze9 b (wrap .u8 x.2.1)
 let d:=Zix b (wrap .u8 x.2.1)
 bif x.1 !=7 then (s.1,ZcB b.2.1 s.2.1 x.2.1 x.2.2.1,s.2.2) else
 (s.1,s.2.1,(bif q.2 then Zml s.2.2.1 q.1 x.2.2.1 else s.2.2.1),(bif q.2 then s.2.2.2.1 else bif d.2 then Zh4 s.2.2.2.1 d.1 x.2.2.1 else s.2.2.2.1),s.2.2.2.2.1,
  s.2.2.2.2.2++[(wrap .u8 x.2.1,x.2.2.1)])
def ZUM (p:PICT) (n:Int):PICT:=
 (p.1,p.2.1,p.2.2.1,p.2.2.2.1,p.2.2.2.2.1,p.2.2.2.2.2.1,p.2.2.2.2.2.2.1,p.2.2.2.2.2.2.2.1,p.2.2.2.2.2.2.2.2.1,p.2.2.2.2.2.2.2.2.2.1,p.2.2.2.2.2.2.2.2.2.2.1,p.2.2.2.2.2.2.2.2.2.2.2.1,
  p.2.2.2.2.2.2.2.2.2.2.2.2.1,p.2.2.2.2.2.2.2.2.2.2.2.2.2.1,p.2.2.2.2.2.2.2.2.2.2.2.2.2.2.1,p.2.2.2.2.2.2.2.2.2.2.2.2.2.2.2.1,p.2.2.2.2.2.2.2.2.2.2.2.2.2.2.2.2.1,n,p.2.2.2.2.2.2.2.2.2.2.2.2.2.2.2.2.2.2)
def ZhJ (p:PINT):Bool:=p.2.2.2.2.2.2.2.2.2.2.2.2.2.2.2.1
def ZjR (s:SYST) (i:INPT):Bool:= !i.2.2.1&&(Zq s.1==3&&ZbU s.1.2.2.2.1.1)
def ZjI (b:BRDT) (s:SYST) (i:INPT):SYST:=
 let t:=Zt b s i
 let u:=busS b t i
 ((Zl u.1.1 (Zbr b t i) u.2),u.1.2.1,u.1.2.2.1,u.1.2.2.2.1,ZcD t,u.1.2.2.2.2.2)
def Zds (b:BRDT) (s:SYST) (i:INPT):SYST:=bif ZjR s i then Zqa b (ZjI b s i) s.1.2.2.2.1 else ZjI b s i
def pinS (b:BRDT) (s:SYST) (i:INPT):PINT:=ZbN (busS b (Zt b s i) i).1.1 (Zbr b (Zt b s i) i) (busS b (Zt b s i) i).2
def ZcV (b:BRDT) (s:SYST) (i:INPT):Bool:=ZhJ (pinS b s i)&&Zaa (Zds b s i).2.2.2.1
def Zk6 (b:BRDT) (s:SYST) (i:INPT):SYST:=
 let w:=Zds b s i
 bif ZcV b s i then (w.1,ZcB b.2.1 w.2.1 w.2.2.2.1.1 w.2.2.2.1.2.1,w.2.2.1,(wrap .u16 (w.2.2.2.1.1+1),w.2.2.2.1.2.1,wrap .i64 (w.2.2.2.1.2.2-1)),w.2.2.2.2) else w
def ZCX (s:SYST) (r:Bool):SYST:=bif r then (s.1,s.2.1,ZUM s.2.2.1 0,(s.2.2.2.1.1,s.2.2.2.1.2.1,0),s.2.2.2.2) else s
def Zah (b:BRDT) (s:SYST) (i:INPT):SYST×PINT×LINT×Int×Cell×Bool:=
 (ZCX (Zk6 b s i) i.2.2.1,pinS b s i,Zbr b (Zt b s i) i,(busS b (Zt b s i) i).2,
  (bif ZcV b s i then ((Zds b s i).2.2.2.1.1,(Zds b s i).2.2.2.1.2.1) else (0,0)),ZcV b s i)
theorem ZhG (b:BRDT) (s:SYST) (i:INPT):(busS b s i).1.1=s.1/\(busS b s i).1.2.1=s.2.1/\(busS b s i).1.2.2.2=s.2.2.2:=by
 unfold busS;dsimp only;cases i.2.2.1||(Zq s.1 !=3|| !Zba s.1.2.2.2.1.1)
 ·cases decide (s.1.2.2.2.1.1>=1)&&decide (s.1.2.2.2.1.1<=5)
  ·cases s.1.2.2.2.1.1 !=6
   ·cases (Ze9 b (wrap .u8 s.1.2.2.2.1.2.1)).2
    ·cases (Zix b (wrap .u8 s.1.2.2.2.1.2.1)).2<;>exact⟨rfl,rfl,rfl⟩
    ·exact⟨rfl,rfl,rfl⟩
   ·cases b.2.2.2.2.2.1<;>exact⟨rfl,rfl,rfl⟩
  ·exact⟨rfl,rfl,rfl⟩
 ·exact⟨rfl,rfl,rfl⟩
theorem ZJg (b:BRDT) (s:SYST) (x:TY):(Zqa b s x).1=s.1/\(Zqa b s x).2.1.length<=s.2.1.length+1/\(Zqa b s x).2.2.2.2.2.length<=s.2.2.2.2.2.length+1:=by
 have:=Zmb b.2.1 s.2.1 x.2.1 x.2.2.1;unfold Zqa;dsimp only;cases x.1 !=7
 ·exact⟨rfl,by simp only[Yc];omega,by simp only[Yc];simp⟩
 ·exact⟨rfl,by simp only[Ya];omega,by simp only[Ya];omega⟩
theorem ZSt (b:BRDT) (s:SYST) (i:INPT):(ZjI b s i).2.1=s.2.1/\(ZjI b s i).2.2.2.2.2=s.2.2.2.2.2:=by have h:=ZhG b (Zt b s i) i;unfold ZjI;simp only[h.1,h.2.1,h.2.2];exact⟨rfl,rfl⟩
theorem ZIb (b:BRDT) (s:SYST) (i:INPT):(Zds b s i).1=(ZjI b s i).1/\(Zds b s i).2.1.length<=s.2.1.length+1/\(Zds b s i).2.2.2.2.2.length<=s.2.2.2.2.2.length+1:=by
 have h1:=ZSt b s i;have h2:=ZJg b (ZjI b s i) s.1.2.2.2.1;rw[h1.1,h1.2] at h2;unfold Zds;cases ZjR s i
 ·exact⟨rfl,by simp only[Yc,h1.1];omega,by simp only[Yc,h1.2];omega⟩
 ·exact h2
theorem Zx5 (b:BRDT) (s:SYST) (i:INPT):(Zah b s i).1.1=(ZjI b s i).1/\(Zah b s i).1.2.1.length<=s.2.1.length+2/\(Zah b s i).1.2.2.2.2.2.length<=s.2.2.2.2.2.length+1:=by have h1:=ZIb b s i;have h2:=Zmb b.2.1 (Zds b s i).2.1 (Zds b s i).2.2.2.1.1 (Zds b s i).2.2.2.1.2.1;unfold Zah ZCX Zk6;dsimp only;cases ZcV b s i<;>cases i.2.2.1<;>simp only[Ya,Yc]<;>exact⟨h1.1,by omega,h1.2.2⟩
def Zbl {α:Type} (l:List α) (f:α->α):List α:=match l.getLast? with
 |some y=>l.dropLast++[f y]
 |none=>[]
variable {α:Type}
theorem Z4 (l:List α) (y:α) (f:α->α):Zbl (l++[y]) f=l++[f y]:=by simp[Zbl]
def Zlm (Zan:TC) (l:List TC):TC:=l.getLastD Zan
theorem ZIe (l:List α) (y:α) (h:l.length<=1000000):wrap .i64 (iN (l++[y]).length-1)=(l.length:Int):=by simp only[iN,Le,Yd,List.length_cons,List.length_nil];rw[wrap_i64 _ (by omega) (by omega)];omega
theorem ZEX {r:R} (l:List r.den) (y:r.den):R.get r (l++[y]) (l.length:Int)=y:=by simp[R.get]
theorem Zlz (l:List α) (y z:α):setI (l++[y]) (l.length:Int) z=l++[z]:=by simp[setI]
theorem ZCW (l:List α) (y:α):Zh (l.length:Int) (l++[y]).length=true:=ZP.2 ⟨by omega,by simp;omega⟩
def Zo0 (t:Int):Int:=bif t==8 then 2 else bif t==9 then 3 else bif t==10 then 4 else 1
def cycN (c:CORT) (t:Int) (x:TY):TY:=bif t==8 then (0,0,0,0) else bif t==9 then (0,c.1.2.1.2.2.2.2.2.2.2.2.2,0,0) else bif t==10 then (0,0,0,0) else x
def ZaA (c:CORT):Bool:=c.1.2.2.1
def sodC (c:CORT):Bool:=c.1.2.2.2.2.2.2.2.2.2.2.2.2
def ZyM (y:ITMT) (k:Int) (c:CORT):Bool:=y.1==k&&(y.2.2.2.2.1==ZaA c&&y.2.2.2.2.2==sodC c)
def Zw8 (y:ITMT):ITMT:=(y.1,y.2.1,y.2.2.1,wrap .i64 (y.2.2.2.1+1),y.2.2.2.2)
def Zgi (l:List ITMT) (k:Int) (c:CORT) (n:ITMT):List ITMT:=match l.getLast? with
 |some y=>bif ZyM y k c then Zbl l Zw8 else l++[n]
 |none=>l++[n]
def ZbQ (l:List ITMT) (c:CORT) (x:TY) (t:Int):List ITMT:=
 bif Zo0 t !=1 then Zgi l (Zo0 t) c (Zo0 t,cycN c t x,0,1,ZaA c,sodC c)
 else bif t==1 then l++[(1,cycN c t x,0,1,ZaA c,sodC c)]
 else bif t==7 then Zbl l (λy=>(y.1,cycN c t x,wrap .i64 (y.2.2.1+1),y.2.2.2))
 else Zbl l (λy=>(y.1,cycN c t x,y.2.2.1,wrap .i64 (y.2.2.2.1+1),y.2.2.2.2))
def Zma:TC:=(0,(0,0,0,0,0,0,0,(false,false,false,false,false,false,false),0,0),false,false,false,0,false,false,false,false,false,false,false)
def Zh2:LINT:=(false,false,false,false,false,false,false,false,false)
def rdS (c:CORT) (t d:Int):TY×List Int:=bif t !=3 then (c.2.2.2.1,c.2.2.1) else (ZaE c.1 c.2.2.2.1 d,c.2.2.1++[(ZaE c.1 c.2.2.2.1 d).2.2.1])
def finS (c:CORT) (l:LINT) (d:Int):TC×Bool:=
 bif l.2.2.1 then (Zma,false) else
 bif !ZpQ c.2.2.2.2.1 (rdS c c.2.2.2.2.1 d).1 then (Zma,false) else
 bif (Zm (Ze c.1 l) c.2.1 (rdS c c.2.2.2.2.1 d).2).2 then (Zma,false) else (finX (Ze c.1 l) c.2.1 (rdS c c.2.2.2.2.1 d).2 l,true)
def ZeW (c:CORT) (t d:Int):List Int:=bif t==3 then c.2.2.1++[(Zp c t d).2.2.1] else c.2.2.1
def evE (ev:List EVTT) (c:CORT) (l:LINT) (d:Int) (cell:Cell) (moved:Bool):List EVTT:=
 let e1:=bif (finS c l d).2 then ev++[ZjT (Zmg c.2.1,c.2.1,ZeW c (Zq c) d,Zh2,false,false,false,false,0,0) (Ze c.1 l) l] else ev
 bif l.2.2.1 then (bif Zgg c then ev++[ZjT (6,c.2.1,c.2.2.1,Zh2,false,false,false,false,0,0) c.1 l] else ev)++[ZjT (4,0,[],Zh2,false,false,false,false,0,0) c.1 l]
 else bif moved then e1++[(5,0,[],Zh2,false,false,false,false,cell)] else e1
def evC (cp:List TC) (Zan:TC) (c:CORT) (after:CORT) (l:LINT) (d:Int) (moved:Bool):List TC:=
 let c1:=bif (finS c l d).2 then cp++[(finS c l d).1] else cp
 bif l.2.2.1 then (bif Zgg c then cp++[Zlm Zan cp] else cp)++[after.1]
 else bif moved then c1++[Zlm Zan cp] else c1
abbrev STT:=SYST×List PINT×List ITMT×List EVTT×List TC
def nowS (s:SYST) (i:INPT):Int:=bif i.2.2.1 then 10 else Zq s.1
def ZcL (b:BRDT) (Zan:TC) (st:STT) (i:INPT):STT:=
 let k:=Zah b st.1 i
 (k.1,st.2.1++[k.2.1],ZbQ st.2.2.1 st.1.1 (Zp st.1.1 (nowS st.1 i) k.2.2.2.1) (nowS st.1 i),
  evE st.2.2.2.1 st.1.1 k.2.2.1 k.2.2.2.1 k.2.2.2.2.1 k.2.2.2.2.2,evC st.2.2.2.2 Zan st.1.1 k.1.1 k.2.2.1 k.2.2.2.1 k.2.2.2.2.2)
structure RunOk (b:BRDT) (st:STT) (n:Nat):Prop where
 g:smG b.2.1=true
 m:st.1.2.1.length<=100000+2*n
 o:st.1.2.2.2.2.2.length<=n
 k:st.1.1.2.2.1.length<=n
 t:st.2.1.length<=n
 it:st.2.2.1.length<=n
 ev:st.2.2.2.1.length<=2*n
 cp:st.2.2.2.2.length<=2*n
 ne:st.2.2.1=[]->Zq st.1.1=1
theorem ZHZ (c:CORT) (l:LINT) (d:Int):(Zl c l d).2.2.1.length<=c.2.2.1.length+1:=by
 have he:∀(c:TC) (s:Int) (g:List Int) (h:Bool) (l:LINT),(endX c s g h l).2.2.1.length<=g.length:=by
  intro c s g h l;unfold endX;cases (Zm c s g).2
  ·exact Yr _
  ·exact Ye _
 unfold Zl;dsimp only;cases l.2.2.1
 ·cases Z2 c.2.2.2.2.1==1
  ·cases Z2 c.2.2.2.2.1==2||Z2 c.2.2.2.2.1==7
   ·cases Z2 c.2.2.2.2.1==8
    ·cases Z2 c.2.2.2.2.1==9
     ·cases Z2 c.2.2.2.2.1==3
      ·cases decide (Z2 c.2.2.2.2.1<c.2.2.2.1.2.2.2)&& !(Z2 c.2.2.2.2.1==6)
       ·exact YD (he _ _ _ _ _) (YaW _)
       ·exact YaW _
      ·cases le3 (ZaE (Ze c.1 l) c.2.2.2.1 d).2.2.2
       ·simp only[Ya,Yc,Yd,List.length_singleton];omega
       ·exact YD (he _ _ _ _ _) (by simp)
     ·cases ZbP (Ze c.1 l) l==0
      ·exact Yr _
      ·exact YaW _
    ·exact YaW _
   ·cases l.1|| !Zg c.2.2.2.1.1<;>exact YaW _
  ·exact YaW _
 ·exact Yr _
theorem ZhF (b:BRDT) (s:SYST) (i:INPT):(Zah b s i).1.1=Zl s.1 (Zbr b (Zt b s i) i) (busS b (Zt b s i) i).2:=by rw[(Zx5 b s i).1];show Zl (busS b (Zt b s i) i).1.1 _ _=_;rw[(ZhG b (Zt b s i) i).1];rfl
theorem ZHh (l:List α) (f:α->α):(Zbl l f).length=l.length:=by
 rcases Yag l with rfl|⟨l',y,rfl⟩
 ·rfl
 ·rw[Yac,Z4];simp
theorem ZNI (l:List ITMT) (k:Int) (c:CORT) (n:ITMT):(Zgi l k c n).length<=l.length+1/\Zgi l k c n≠[]:=by
 unfold Zgi;rcases Yag l with rfl|⟨l',y,rfl⟩
 ·exact⟨by simp,by simp⟩
 ·rw[Yac,List.getLast?_concat];dsimp only;cases ZyM y k c
  ·exact⟨by simp,by simp⟩
  ·simp only[Ya];rw[Z4];exact⟨by simp,by simp⟩
theorem ZNJ (l:List ITMT) (c:CORT) (x:TY) (t:Int) (h:l=[]->t=1\/t=10):(ZbQ l c x t).length<=l.length+1/\ZbQ l c x t≠[]:=by
 have hj:=ZNI l (Zo0 t) c (Zo0 t,cycN c t x,0,1,ZaA c,sodC c);have ho:∀f:ITMT->ITMT,l≠[]->(Zbl l f).length<=l.length+1/\Zbl l f≠[]:=λf hl=>by have:=ZHh l f;refine⟨by omega,λe=>hl ?_⟩;rw[e] at this;exact Y2.1 this.symm
 unfold ZbQ;cases hk:Zo0 t !=1
 ·cases h1:t==1
  ·have hl:l≠[]:=λe=>by
    rcases h e with rfl|rfl
    ·simp at h1
    ·simp[Zo0] at hk
   cases t==7
   ·exact ho _ hl
   ·exact ho _ hl
  ·exact⟨by simp,by simp⟩
 ·exact hj
theorem ZWo (s:SYST) (i:INPT) (h:Zq s.1=1):nowS s i=1\/nowS s i=10:=by
 unfold nowS;rw[h];cases i.2.2.1
 ·exact .inl rfl
 ·exact .inr rfl
theorem ZW3 (ev:List EVTT) (c:CORT) (l:LINT) (d:Int) (cell:Cell) (moved:Bool):(evE ev c l d cell moved).length<=ev.length+2:=by
 unfold evE;dsimp only;cases l.2.2.1
 ·cases (finS c l d).2<;>cases moved<;>simp
 ·cases Zgg c<;>simp
theorem ZW4 (cp:List TC) (Zan:TC) (c after:CORT) (l:LINT) (d:Int) (moved:Bool):(evC cp Zan c after l d moved).length<=cp.length+2:=by
 unfold evC;dsimp only;cases l.2.2.1
 ·cases (finS c l d).2<;>cases moved<;>simp
 ·cases Zgg c<;>simp
theorem ZP2 (b:BRDT) (Zan:TC) (st:STT) (i:INPT) (n:Nat) (h:RunOk b st n):RunOk b (ZcL b Zan st i) (n+1):=by
 have hc:=Zx5 b st.1 i;have hi:=ZNJ st.2.2.1 st.1.1 (Zp st.1.1 (nowS st.1 i) (Zah b st.1 i).2.2.2.1) (nowS st.1 i) (λe=>ZWo st.1 i (h.ne e));refine⟨h.g,?_,?_,?_,?_,?_,?_,?_,?_⟩
 ·have:=h.m;show (Zah b st.1 i).1.2.1.length<=_;omega
 ·have:=h.o;show (Zah b st.1 i).1.2.2.2.2.2.length<=_;omega
 ·have:=h.k;show (Zah b st.1 i).1.1.2.2.1.length<=_;rw[ZhF];have:=ZHZ st.1.1 (Zbr b (Zt b st.1 i) i) (busS b (Zt b st.1 i) i).2;omega
 ·have:=h.t;show (st.2.1++[_]).length<=_;simp;omega
 ·have:=h.it;exact YD hi.1 (by omega)
 ·have:=h.ev;exact YD (ZW3 _ _ _ _ _ _) (by omega)
 ·have:=h.cp;exact YD (ZW4 _ _ _ _ _ _ _) (by omega)
 ·intro e;exact absurd e hi.2
def ZeK (b:BRDT) (Zan:TC) (st:STT) (l:List INPT):STT:=l.foldl (ZcL b Zan) st
theorem ZuB (b:BRDT) (Zan:TC):∀(l:List INPT) (st:STT) (n:Nat),RunOk b st n->RunOk b (ZeK b Zan st l) (n+l.length)
 |[],st,n,h=>h
 |i::l,st,n,h=>by have:=ZuB b Zan l (ZcL b Zan st i) (n+1) (ZP2 b Zan st i n h);rw[show n+(i::l).length=n+1+l.length by simp;omega];exact this
theorem ZI9 (l:List α) (d:α) (i:Nat) (h:i<l.length):l.take (i+1)=l.take i++[l.getD i d]:=by rw[Yak,Yl,Yg h];rfl
def Zck (b:BRDT):STT:=((wNew b).1,[],[],[],[])
def ZaO (b:BRDT):TC:=(wNew b).1.1.1
def Zrp:SYST:=((Zma,0,[],(0,0,0,0),0,false),[],(0,false,false,false,false,0,0,false,false,false,false,false,0,0,0,0,0,0,0,false),(0,0,0),0,[])
theorem Zme (b:BRDT) (hg:smG b.2.1=true) (hm:smC b.2.2.2.2.2.2=true):Zmf b=true:=by
 unfold Zmf ZfD;simp only[RT.val,hg,hm,Yk,Ya];cases b.1 !=1&&b.1 !=2
 ·cases ZbM b.2.1 !=0
  ·cases decide (b.2.2.1<0)||(decide (b.2.2.1>100)|| !vldB b.2.2.2.2.2.2)<;>rfl
  ·rfl
 ·rfl
def newS (b:BRDT):SYST:=((((newX b.1).1.1,(0,0,0,0,0,0,0,(false,false,false,false,false,false,false),0,0),false,false,false,(newX b.1).1.2.2.2.2.2.1,false,false,false,false,false,false,false),0,[],(1,0,0,4),1,false),
 normX b.2.2.2.2.2.2,(0,false,false,false,false,0,0,false,false,false,false,false,0,0,0,0,7,0,0,false),(0,0,0),0,[])
theorem Zyk (b:BRDT) (hg:smG b.2.1=true) (hm:b.2.2.2.2.2.2.length<=100000):ZXs b=true/\(wNew b).2=Zci b/\((wNew b).2=0->RunOk b (Zck b) 0/\(wNew b).1.2.1=normX b.2.2.2.2.2.2):=by
 have hc:=smCb (l:=b.2.2.2.2.2.2) (by omega);have hv:(ZFv b).val=some (bif Zci b !=0 then (Zrp,Zci b) else ((newS b),0)):=by unfold ZFv;simp only[RT.val,Zme b hg hc,hc,Ya];cases Zci b !=0<;>rfl
 refine⟨by simp only[ZXs,hv];rfl,?_,?_⟩
 ·simp only[wNew,hv,getO];cases hx:Zci b !=0
  ·simp at hx;exact hx.symm
  ·rfl
 ·intro h0;have hx:(Zci b !=0)=false:=by
   cases hx:Zci b !=0
   ·rfl
   ·simp only[wNew,hv,getO,hx,Ya] at h0;rw[h0] at hx;simp at hx
  have e:wNew b=((newS b),0):=by simp only[wNew,hv,getO,hx,Yc]
  have hn:=Zeo b.2.2.2.2.2.2;unfold Zck;rw[e];exact⟨⟨hg,by show (normX b.2.2.2.2.2.2).length<=_;omega,Ye _,Ye _,Ye _,Ye _,Ye _,Ye _,λ_=>rfl⟩,rfl⟩
def endS (Zan:TC) (st:STT):RUNT:=
 (st.2.1,st.2.2.1,bif Zgg st.1.1 then st.2.2.2.1++[(7,st.1.1.2.1,st.1.1.2.2.1,Zh2,false,false,false,false,0,0)] else st.2.2.2.1,bif Zgg st.1.1 then st.2.2.2.2++[Zlm Zan st.2.2.2.2] else st.2.2.2.2,st.1)
def ZdH (b:BRDT) (l:List INPT):RUNT×Int:=bif (wNew b).2 !=0 then (([],[],[],[],Zrp),(wNew b).2) else (endS (ZaO b) (ZeK b (ZaO b) (Zck b) l),0)
abbrev ZaL:R:=R.int u8
abbrev ZaM:Nat:=5
abbrev ZjU:List Sh:=[So (R.sl ZfL)]
def Zym:LS:={n:=64,Sl:=[(3,.tip 0),(7,.code (So (R.sl ZfL))),(8,.code (So Kc)),(9,.code (So Kc))],Bx:=[],Sg:=[⟨Ka,5,false⟩]}
def Zh3 (a:List INPT×Int×Int×List Int×PUnit):RT (Option (Go1 (List INPT×Int×Int×List Int×PUnit))):=
 let x1:INPT:=R.get ZfL a.1 a.2.2.1
 let x2:= !x1.1
 let x3:=ZfE x2 0
 let x4:= !x3
 let x5:=x1.2
 let x6:=x5.1
 let x7:=ZfE x6 1
 let x8:= !x7
 let x9:=x5.2
 let x10:=x9.1
 let x11:=ZfE x10 2
 let x12:= !x11
 let x13:=x9.2
 let x14:=x13.1
 let x15:=ZfE x14 3
 let p1:=( !x15)::x12::x8::x4::[]
 let x17:=x13.2
 let x18:=x17.1
 let x19:=ZfE x18 4
 let p3:=( !x19)::p1
 let x21:=x17.2
 let x22:=x21.1
 let x23:=ZfE x22 5
 let p6:=( !x23)::p3
 let x25:=x21.2
 let x26:=x25.1
 let x27:=ZfE x26 6
 let p8:=(!x27)::p6
 let x28:=x25.2
 let x29:=x28.1
 let x30:=orR p8 (ZfE x29 7)
 let x31:= !x30
 let x32:=orR p6 x27
 let p2:=( !x32)::x31::(decide (a.2.2.1>=65536))::(!Zh a.2.2.1 (Le a.1))::[]
 let x34:=orR p3 x23
 let p4:=( !x34)::p2
 let x36:=orR p1 x19
 let p5:=( !x36)::p4
 let x38:=x4||(x8||(x12||x15))
 let p7:=( !x38)::p5
 let x40:=x4||(x8||x11)
 let p9:=( !x40)::p7
 let x42:=x4||x7
 let p10:=( !x42)::p9
 let p11:=x4::p10
 let x44:=orI u8 (orI u8 (orI u8 (orI u8 (orI u8 (orI u8 (orI u8 (wBit x2 0) (wBit x6 1)) (wBit x10 2)) (wBit x14 3)) (wBit x18 4)) (wBit x22 5)) (wBit x26 6)) (wBit x29 7)
 let x45:=x28.2
 let x46:=x45.1
 let x47:=x45.2
 let x48:List Int:=a.2.2.2.1++[x44,x46,x47,ZhM x44 x46 x47]
 .br (decide (a.2.2.1<a.2.1)) (.br (orR p11 (Nat.ble (Le x48) most)) (.br (orR p10 x3) (.br (orR p9 x42) (.br (orR p7 x40) (.br (orR p5 x38) (.br (orR p4 x36) (.br (orR p2 x34) (.br (!Zh a.2.2.1 (Le a.1)||(decide (a.2.2.1>=65536)||(x31||x32))) (.br (!Zh a.2.2.1 (Le a.1)||(decide (a.2.2.1>=65536)||x30)) (.br (Zh a.2.2.1 (Le a.1)) (.br (decide (a.2.2.1>=65536)) (Ls (Go1.brk (a.1,a.2.1,a.2.2.1,a.2.2.2.1,PUnit.unit))) (Ls (Go1.cont (a.1,a.2.1,i64.wrap (a.2.2.1+1),x48,PUnit.unit)))) Ln) Ln) Ln) Ln) Ln) Ln) Ln) Ln) Ln) Ln) (Ls (Go1.brk (a.1,a.2.1,a.2.2.1,a.2.2.2.1,PUnit.unit)))
def Zmh:Ora:=Zbq false Zym Zh3 (λa=>1000000000000)
theorem Zrr:Za1 (envX prog [(136,ZUa),(137,Zyn)] [] 127 8) (.block 0 (.loop (Z5 Tryz.f54.body 0))) Zmh:=
 loopP ⟨ZIn,Zu4,Tv⟩
def Zgo (l:List INPT):RT (Option (List Int)):=
 let x1:=runF false Zh3 (λa=>1000000000000) (l,iN (Le l),0,[],())
 .br (okB x1) (Ls (getO (false,l,iN (Le l),0,[],()) x1).2.2.2.2.1) Ln
def Zbz (l:List INPT):List Int:=getO [] (Zgo l).val
def Zgp (l:List INPT):Bool:=okB (Zgo l).val
def Zu2:En:=frzE (newE ZaL ZaM ZjU (λa=>some (Zgp a)) (λa=>Zbz a))
theorem Zu3:Za prog 54 (newE ZaL ZaM ZjU (λa=>some (Zgp a)) (λa=>Zbz a)):=
 ZlU (P:=prog) (n:=127) (k:=8) (l:=[(136,ZUa),(137,Zyn)]) (ol:=[(0,Zmh)]) ⟨ZIn,Zu4,Tv⟩ Tryz.func54 rfl (by kernel_rfl) Tryz.call54 ⟨Zrr,Tv⟩ (r:=ZaL) (T:=ZaM) (ts:=ZjU) (t:=λa=>Zgo a) (λa=>by kernel_rfl)
theorem Zyl:Za prog 54 Zu2:=ZxD Zu3
def Zht (s:List Int×Int) (n:Int):RT (Option (List Int×List Int×Int)):=
 let x1:=decide (iN (Le (Stg.l (newG ZaL ZaM (Zbz (Zae s n).1))))>0)
 let x2:=x1&&(Zb (Zae s n).2 4).1==0
 let x3:= !x2
 let x4:List Int:=bif x1 then (Zb (Zae s n).2 4).2.1 else (Zae s n).2.1
 let x5:Int:=bif x1 then (Zb (Zae s n).2 4).2.2 else (Zae s n).2.2
 let x6:List Int×Int:=(x4,x5)
 let x7:=Zj x6 (iN (Le (Stg.l (newG ZaL ZaM (Zbz (Zae s n).1)))))
 let x8:= !x7
 let x9:=Zb x6 (iN (Le (Stg.l (newG ZaL ZaM (Zbz (Zae s n).1)))))
 let x10:=x9.1
 let x11:=Zh x10 (Le (Stg.l (newG ZaL ZaM (Zbz (Zae s n).1))))
 let x12:= !x11
 let x13:=x9.2
 let x14:=Zj x13 8
 let p1:=( !x14)::x12::x8::x3::[]
 let x16:=Zb x13 8
 let x17:=x16.1
 let x18:=decide (0<=x17)
 let p2:=(!x18)::p1
 let x19:=x16.2
 .br (!Zjk s n||Zgp (Zae s n).1) (.br (Zjk s n) (.br (!x1||Zj (Zae s n).2 4) (.br (orR p2 x11) (.br (orR p1 x18) (.br (x3||(x8||(x12||x14))) (.br (x3||(x8||x11)) (.br (x3||x7) (Ls ((bif x2 then setI (Stg.l (newG ZaL ZaM (Zbz (Zae s n).1))) x10 (xorI u8 (R.get (Stg.r (newG ZaL ZaM (Zbz (Zae s n).1))) (Stg.l (newG ZaL ZaM (Zbz (Zae s n).1))) x10) (shlI u8 1 x17)) else Stg.l (newG ZaL ZaM (Zbz (Zae s n).1)),bif x2 then x19.1 else x4,bif x2 then x19.2 else x5))) Ln) Ln) Ln) Ln) Ln) Ln) Ln) Ln
def ZgO (s:List Int×Int) (n:Int):List Int×List Int×Int:=getO (ZIl.Df,ZBm.Df) (Zht s n).val
def ZlV (s:List Int×Int) (n:Int):Bool:=okB (Zht s n).val
def ZEA:En:=boxE ZBm Zwr ZIl (λa=>some (ZlV a.1 a.2)) (λa=>ZgO a.1 a.2)
theorem ZHm:Za prog 22 ZEA:=
 ZcA (P:=prog) (n:=63) (k:=8) (l:=[(36,ZcU),(54,Zu2),(55,ZEB)]) (ol:=[]) ⟨Zbb,Zyl,ZHp,Tv⟩ Tryz.func22 rfl (by kernel_rfl) Tryz.call22 trivial (rb:=ZBm) (ts:=Zwr) (rs:=ZIl) (t:=λa=>Zht a.1 a.2) (λa=>by kernel_rfl)
theorem ZOn:Zh3=Zd4:=by funext a;rfl
theorem ZPp (l:List INPT) (hl:l.length<=1000):Zgp l=true/\Zbz l=Zmi l/\(Zbz l).length=4*l.length:=by
 have h:=ZFw l hl;have e:Zgo l=Zg8 l:=by unfold Zgo Zg8;rw[ZOn]
 have e2:Zbz l=Zmi l:=by unfold Zbz Zmi;rw[e];rfl
 refine⟨by unfold Zgp;rw[e];exact h.1,e2,by rw[e2];exact h.2⟩
theorem ZHn (h:NB s k) (hk:k<=50000) (n:Nat) (hn:n<=250):
  ZlV s (n:Int)=true/\NB (ZgO s (n:Int)).2 (k+10+30*n)/\(ZgO s (n:Int)).1.length<=4*n/\∃m:Nat,(ZgO s (n:Int)).1.length=4*m:=by
 have hms:=mst;obtain⟨c1,b1,l1⟩:=ZHq h (by omega) n hn;obtain⟨c2,e2,l2⟩:=ZPp (Zae s (n:Int)).1 (by omega);have hg:∀l:List Int,Stg.l (newG ZaL ZaM l)=l:=λ_=>rfl
 have hr:∀l:List Int,Stg.r (newG ZaL ZaM l)=R.int .u8:=λ_=>rfl
 obtain⟨L,hL⟩:∃L,L=Zbz (Zae s (n:Int)).1:=⟨_,rfl⟩;rw[<-hL] at l2;obtain⟨c3,b3,_⟩:=Zr b1 (by omega) 4 (by decide) (by decide);have b4:NB (bif decide (iN L.length>0) then (Zb (Zae s (n:Int)).2 4).2.1 else (Zae s (n:Int)).2.1,bif decide (iN L.length>0) then (Zb (Zae s (n:Int)).2 4).2.2 else (Zae s (n:Int)).2.2) (k+3+30*n):=by
  cases decide (iN L.length>0)
  ·exact b1.up (by omega)
  ·exact b3.up (by omega)
 obtain⟨s4,hs4⟩:∃s4:List Int×Int,s4=(bif decide (iN L.length>0) then (Zb (Zae s (n:Int)).2 4).2.1 else (Zae s (n:Int)).2.1,bif decide (iN L.length>0) then (Zb (Zae s (n:Int)).2 4).2.2 else (Zae s (n:Int)).2.2):=⟨_,rfl⟩;rw[<-hs4] at b4;have hv:∃l s',(Zht s (n:Int)).val=some (l,s')/\NB s' (k+10+30*n)/\l.length=L.length:=by
  by_cases hz:0<L.length
  ·have d:decide (iN L.length>0)=true:=Yz (by simp only[iN,Le];omega);obtain⟨c5,b5,d0,d1⟩:=Zr b4 (by omega) (iN L.length) (by simp only[iN,Le];omega) (by simp only[iN,Le];omega);obtain⟨c6,b6,f0,f1⟩:=Zr b5 (by omega) 8 (by decide) (by decide);have r5:Zh (Zb s4 (iN L.length)).1 L.length=true:=ZP.2 ⟨d0,by simpa [iN,Le] using d1⟩;have e6:decide (0<=(Zb (Zb s4 (iN L.length)).2 8).1)=true:=Yz f0;rw[d] at hs4;simp only[Ya] at hs4;unfold Zht;simp only[RT.val,hg,hr,<-hL,c1,c2,d,c3,<-hs4,c5,r5,c6,e6,ZbO,ZaW,YQ,Yh,Yk,Yj,Ya];cases (Zb (Zae s (n:Int)).2 4).1==0
   ·exact⟨_,_,rfl,b3.up (by omega),rfl⟩
   ·exact⟨_,_,rfl,b6.up (by omega),by simp only[Ya,setI,YaI]⟩
  ·have d:decide (iN L.length>0)=false:=YR (by simp only[iN,Le];omega);rw[d] at hs4;simp only[Yc] at hs4;unfold Zht;simp only[RT.val,hg,hr,<-hL,c1,c2,d,ZbO,ZaW,YZ,Yh,Ym,Yw,Yk,Yj,Ya,Yc];exact⟨_,_,rfl,b1.up (by omega),rfl⟩
 obtain⟨l,s',hv,h1,h2⟩:=hv;simp only[ZlV,ZgO,hv,okB,getO];exact⟨trivial,h1,by omega,(Zae s (n:Int)).1.length,by omega⟩
def Zx1 (k:Int):Bool:=k==1||(k==2||k==3)
def ZDM (c:TC) (e:EVTT):TC:=(c.1,c.2.1,c.2.2.1,c.2.2.2.1,c.2.2.2.2.1,c.2.2.2.2.2.1,e.2.2.2.2.2.1,e.2.2.2.2.1,e.2.2.2.2.2.2.2.1,e.2.2.2.2.2.2.1,c.2.2.2.2.2.2.2.2.2.2)
def ZdT (c:TC) (e:EVTT):TC:=bif Zx1 e.1 then finX (ZDM (ZA c e.2.1) e) e.2.1 e.2.2.1 e.2.2.2.1 else bif e.1==4 then ZY c else c
def ZDL (c:TC) (x:TY) (b:Int):TY:=(x.1,x.2.1,bif Zba x.1 then b else x.2.2.1,bif x.1==1||x.1==8 then ZeP c.1 b else x.2.2.2)
def cyX (c:TC) (s:Int) (g:List Int):List Int->List TY
 |[]=>[]
 |b::r=>bif (Zm c s g).2 then ZDL c (Zm c s g).1 b::cyX c s (g++[b]) r else []
def cycE (k:Int):Bool:=Zx1 k||(k==6||k==7)
def Zg3 (c:TC) (e:EVTT):List TY:=bif cycE e.1 then cyX (ZA c e.2.1) e.2.1 [] e.2.2.1 else []
def ZvP (c:TC):List EVTT->List TC
 |[]=>[]
 |e::l=>ZdT c e::ZvP (ZdT c e) l
def Zbw (c:TC) (l:List EVTT):TC:=l.foldl ZdT c
def Zzi (l:Int) (k:Int):RT (Int):=
 .Lf (andI i64 (i64.wrap (i64.wrap (andI i64 l 7-andI i64 k 7)+7)) 7)
def Zwa (l:Int) (k:Int):Int:=(Zzi l k).val
def ZKz:En:=Zf ZEJ ZTl (λ_=>none) (λa=>Zwa a.1 a.2)
theorem ZKy:Za prog 261 ZKz:=
 pureQ 31 [] [] _ _ trivial Tryz.func261 Tryz.call261 trivial
abbrev ZDw:List Sh:=[So Ka,So Kc]
def ZKC:LS:={n:=22,Sl:=[(0,.code (So Ka)),(1,.code (So Kc)),(4,.code (So Kc)),(5,.code (So Kc))],Bx:=[],Sg:=[]}
def Zdw (a:QT22):RT (Option (Go1 (QT22))):=
 let x1:=andI i64 (i64.wrap (andI i64 a.2.1 7+a.2.2.2.1)) 7
 .br (decide (a.2.2.2.1<=8)) (.br (decide (0<=x1)) (.br (andI u8 (shrI u8 a.1 x1) 1==1) (Ls (Go1.ret (a.1,a.2.1,x1,a.2.2.2.1,PUnit.unit))) (Ls (Go1.cont (a.1,a.2.1,a.2.2.1,i64.wrap (a.2.2.2.1+1),PUnit.unit)))) Ln) (Ls (Go1.brk (a.1,a.2.1,a.2.2.1,a.2.2.2.1,PUnit.unit)))
def Zwc:Ora:=Zbq true ZKC Zdw (λa=>9)
theorem Zzj:Za1 (envX prog [] [] 127 8) (.block 0 (.loop (Z5 Tryz.f249.body 0))) Zwc:=
 loopP trivial
def Zig (s:Int) (k:Int):RT (Option (Int)):=
 let x1:=runF true Zdw (λa=>9) (s,k,0,1,())
 let x2:=getO (false,s,k,0,1,()) x1
 .br (okB x1) (.br x2.1 (Ls x2.2.2.2.1) (Ls (-1))) Ln
def Zi1 (s:Int) (k:Int):Int:=getO ZTl.Df (Zig s k).val
def Zih (s:Int) (k:Int):Bool:=okB (Zig s k).val
def Zzk:En:=Zf ZDw ZTl (λa=>some (Zih a.1 a.2)) (λa=>Zi1 a.1 a.2)
theorem Zwb:Za prog 249 Zzk:=
 pureP 127 [] [(0,Zwc)] _ _ trivial Tryz.func249 Tryz.call249 ⟨Zzj,Tv⟩
abbrev ZDu:List Sh:=[So Ka,So Ka,So Ka,So Kc,So R.bool]
def Zm3 (r:Int) (m:Int) (s:Int) (k:Int) (p:Bool):RT (Option (Int)):=
 .br (!Zih (Z1 u8 r m) k||Zih (bif p then Z1 u8 s m else s) k) (.br (Zih (Z1 u8 r m) k) (.br (decide (Zi1 (Z1 u8 r m) k<0)||decide (Zi1 (bif p then Z1 u8 s m else s) k>=0)&&decide (Zwa (Zi1 (Z1 u8 r m) k) k>=Zwa (Zi1 (bif p then Z1 u8 s m else s) k) k)) (Ls (-1)) (Ls (Zi1 (Z1 u8 r m) k))) Ln) Ln
def ZDv (r:Int) (m:Int) (s:Int) (k:Int) (p:Bool):Int:=getO ZTl.Df (Zm3 r m s k p).val
def Zst (r:Int) (m:Int) (s:Int) (k:Int) (p:Bool):Bool:=okB (Zm3 r m s k p).val
def ZKB:En:=Zf ZDu ZTl (λa=>some (Zst a.1 a.2.1 a.2.2.1 a.2.2.2.1 a.2.2.2.2)) (λa=>ZDv a.1 a.2.1 a.2.2.1 a.2.2.2.1 a.2.2.2.2)
theorem ZKA:Za prog 247 ZKB:=
 pureP 8191 [(249,Zzk),(261,ZKz)] [] _ _ ⟨Zwb,ZKy,Tv⟩ Tryz.func247 Tryz.call247 trivial
def ZTa:RT PICT:=
 .Lf ((0,false,false,false,false,0,0,false,false,false,false,false,0,0,0,0,7,0,0,false))
def ZVl:PICT:=(ZTa).val
def ZDC:En:=Zf Zv5 ZUg (λ_=>none) (λa=>ZVl)
theorem ZDB:Za prog 59 ZDC:=
 pureQ 1 [] [] _ _ trivial Tryz.func59 Tryz.call59 trivial
abbrev ZKF:List Sh:=[Sh.agg Zcq]
def ZKG (p:PICT):RT (Int):=
 .br p.2.1 (.Lf p.2.2.2.2.2.2.2.2.2.2.2.2.1) (.Lf p.2.2.2.2.2.2.2.2.2.2.2.2.2.1)
def ZF1 (p:PICT):Int:=(ZKG p).val
def ZKI:En:=Zf ZKF ZMD (λ_=>none) (λa=>ZF1 a)
theorem ZDz:Za prog 212 ZKI:=
 pureQ 7 [] [] _ _ trivial Tryz.func212 Tryz.call212 trivial
def Znb (p:PICT):RT (Option (Int)):=
 let x1:=p.2.2.2.2.2.2.2.2.2.2.2.2.2.2
 let x2:=x1.2
 let x3:=x2.1
 let x4:=x1.1
 let x5:=x2.2.1
 .br (Zst (ZF1 p) x3 x4 x5 p.2.2.2.2.2.2.2.2.2.1) (Ls (ZDv (ZF1 p) x3 x4 x5 p.2.2.2.2.2.2.2.2.2.1)) Ln
def Za2 (p:PICT):Int:=getO ZTl.Df (Znb p).val
def Zkg (p:PICT):Bool:=okB (Znb p).val
def ZsD:En:=Zf ZKF ZTl (λa=>some (Zkg a)) (λa=>Za2 a)
theorem Zna:Za prog 207 ZsD:=
 pureP 7 [(212,ZKI),(247,ZKB)] [] _ _ ⟨ZDz,ZKA,Tv⟩ Tryz.func207 Tryz.call207 trivial
def Zwe (p:PICT):RT (Option (Bool)):=
 .br (Zkg p) (Ls (decide (Za2 p>=0))) Ln
def ZVm (p:PICT):Bool:=getO ZnA.Df (Zwe p).val
def ZKN (p:PICT):Bool:=okB (Zwe p).val
def ZYh:En:=Zf ZKF ZnA (λa=>some (ZKN a)) (λa=>ZVm a)
theorem ZQw:Za prog 153 ZYh:=
 pureP 7 [(207,ZsD)] [] _ _ ⟨Zna,Tv⟩ Tryz.func153 Tryz.call153 trivial
abbrev Zm7:List Sh:=[Sh.agg Zcq,So Ka]
def ZsB (p:PICT) (l:Int):RT PICT:=
 let x1:=p.2.2.2.2.2.2.2.2.2.2.2.2.2
 .Lf ((p.1,p.2.1,p.2.2.1,p.2.2.2.1,p.2.2.2.2.1,p.2.2.2.2.2.1,p.2.2.2.2.2.2.1,p.2.2.2.2.2.2.2.1,p.2.2.2.2.2.2.2.2.1,p.2.2.2.2.2.2.2.2.2.1,p.2.2.2.2.2.2.2.2.2.2.1,p.2.2.2.2.2.2.2.2.2.2.2.1,l,andI u8 (orI u8 x1.1 (Z1 u8 l p.2.2.2.2.2.2.2.2.2.2.2.2.1)) l,x1.2))
def Zzq (p:PICT) (l:Int):PICT:=(ZsB p l).val
def ZQv:En:=Zf Zm7 ZUg (λ_=>none) (λa=>Zzq a.1 a.2)
theorem ZF3:Za prog 152 ZQv:=
 pureQ 31 [] [] _ _ trivial Tryz.func152 Tryz.call152 trivial
abbrev ZDy:List Sh:=[Sh.agg Zcq,So Kc]
def Zsx (p:PICT) (x:Int):RT (Option PICT):=
 let x1:=p.2.2.2.2.2.2.2.2.2.2.2.2.2
 let x2:=x1.2
 .br (decide (0<=x)) (.br (decide (0<=x)) (Ls ((p.1,p.2.1,p.2.2.1,p.2.2.2.1,p.2.2.2.2.1,p.2.2.2.2.2.1,p.2.2.2.2.2.2.1,p.2.2.2.2.2.2.2.1,p.2.2.2.2.2.2.2.2.1,p.2.2.2.2.2.2.2.2.2.1,p.2.2.2.2.2.2.2.2.2.2.1,p.2.2.2.2.2.2.2.2.2.2.2.1,p.2.2.2.2.2.2.2.2.2.2.2.2.1,Z1 u8 x1.1 (shlI u8 1 x),orI u8 x2.1 (shlI u8 1 x),x2.2))) Ln) Ln
def ZqF (p:PICT) (x:Int):PICT:=getO ZUg.Df (Zsx p x).val
def Zkf (p:PICT) (x:Int):Bool:=okB (Zsx p x).val
def Zzn:En:=Zf ZDy ZUg (λa=>some (Zkf a.1 a.2)) (λa=>ZqF a.1 a.2)
theorem Zwd:Za prog 210 Zzn:=
 pureP 31 [] [] _ _ trivial Tryz.func210 Tryz.call210 trivial
def ZDE (p:PICT) (x:Int):RT (Option PICT):=
 let x1:=p.2.2.2.2.2.2.2.2.2.2.2.2.2
 let x2:=x1.2
 let x3:=x2.2
 let x4:=x3.2
 .br (decide (0<=x)) (Ls ((p.1,p.2.1,p.2.2.1,p.2.2.2.1,p.2.2.2.2.1,p.2.2.2.2.2.1,p.2.2.2.2.2.2.1,p.2.2.2.2.2.2.2.1,p.2.2.2.2.2.2.2.2.1,p.2.2.2.2.2.2.2.2.2.1,p.2.2.2.2.2.2.2.2.2.2.1,p.2.2.2.2.2.2.2.2.2.2.2.1,p.2.2.2.2.2.2.2.2.2.2.2.2.1,x1.1,Z1 u8 x2.1 (shlI u8 1 x),x3.1,bif p.2.2.2.2.2.2.2.2.1 then x else x4.1,x4.2))) Ln
def ZF4 (p:PICT) (x:Int):PICT:=getO ZUg.Df (ZDE p x).val
def ZqG (p:PICT) (x:Int):Bool:=okB (ZDE p x).val
def ZKQ:En:=Zf ZDy ZUg (λa=>some (ZqG a.1 a.2)) (λa=>ZF4 a.1 a.2)
theorem ZDD:Za prog 211 ZKQ:=
 pureP 31 [] [] _ _ trivial Tryz.func211 Tryz.call211 trivial
def Zzt (p:PICT) (v:Int):RT PICT:=
 let x1:=p.2.2.2.2.2.2.2.2.2.2.2.2.2
 let x2:=x1.2
 let x3:=x2.2
 let x4:=x3.1
 .Lf ((bif p.1==2 then bif p.2.2.2.1 then bif p.2.2.2.2.1 then 4 else 0 else 3 else bif p.1==3 then bif p.2.2.2.2.1 then 4 else 0 else bif p.1==4 then 0 else p.1,p.2.1,p.2.2.1,p.2.2.2.1,p.2.2.2.2.1,p.2.2.2.2.2.1,bif p.1==2 then v else p.2.2.2.2.2.2.1,bif p.1==2 then p.2.2.2.2.2.2.2.1 else bif p.1==3 then p.2.2.2.2.2.2.2.1 else bif p.1==4 then andI u8 v 2 !=0 else p.2.2.2.2.2.2.2.1,p.2.2.2.2.2.2.2.2.1,p.2.2.2.2.2.2.2.2.2.1,p.2.2.2.2.2.2.2.2.2.2.1,p.2.2.2.2.2.2.2.2.2.2.2.1,p.2.2.2.2.2.2.2.2.2.2.2.2.1,x1.1,x2.1,bif p.1==2 then x4 else bif p.1==3 then x4 else bif p.1==4 then x4 else v,x3.2))
def ZDH (p:PICT) (v:Int):PICT:=(Zzt p v).val
def ZKS:En:=Zf Zm7 ZUg (λ_=>none) (λa=>ZDH a.1 a.2)
theorem ZKR:Za prog 213 ZKS:=
 pureQ 35655743 [] [] _ _ trivial Tryz.func213 Tryz.call213 trivial
def Zwf (p:PICT) (v:Int):RT (Option PICT):=
 let x1:=p.2.2.2.2.2.2.2.2.2.2.2.2.2
 let x2:=x1.2
 let x3:=x2.1
 let x4:=x2.2
 let x5:=x4.1
 let x6:Int:=bif p.2.2.2.2.2.2.2.2.2.1 then Z1 u8 x3 x5 else x3
 let x7:=x4.2
 let x8:=x7.1
 let x9:=bif shrI u8 v 5==1 then shrI u8 v 5==1 else shrI u8 v 5==5
 let x10:=Zi1 x6 x8
 let x11:=decide (x10<0)
 let p1:=x11::(!x9)::(shrI u8 v 5==4)::(shrI u8 v 5==0)::[]
 let x12:= !shrI u8 v 5==3||decide (0<=i64.wrap (andI u8 v 7))
 let p2:=(!shrI u8 v 5==7)::(shrI u8 v 5==3)::(!x12)::x9::(shrI u8 v 5==4)::(shrI u8 v 5==0)::[]
 let x13:=Z1 u8 x3 (shlI u8 1 (i64.wrap (andI u8 v 7)))
 .br (Zih x6 x8) (.br (orR p1 (decide (0<=x10))) (.br (orR p2 (decide (0<=i64.wrap (andI u8 v 7)))) (.br (shrI u8 v 5==0||(shrI u8 v 5==4||(x9||x12))) (Ls ((p.1,p.2.1,p.2.2.1,p.2.2.2.1,p.2.2.2.2.1,p.2.2.2.2.2.1,p.2.2.2.2.2.2.1,p.2.2.2.2.2.2.2.1,!shrI u8 v 5==0&&(shrI u8 v 5==4||p.2.2.2.2.2.2.2.2.1),p.2.2.2.2.2.2.2.2.2.1,p.2.2.2.2.2.2.2.2.2.2.1,p.2.2.2.2.2.2.2.2.2.2.2.1,p.2.2.2.2.2.2.2.2.2.2.2.2.1,x1.1,bif shrI u8 v 5==0 then x3 else bif shrI u8 v 5==4 then x3 else bif x9 then bif x11 then x3 else Z1 u8 x3 (shlI u8 1 x10) else bif shrI u8 v 5==3 then x13 else bif shrI u8 v 5==7 then x13 else x3,x5,bif shrI u8 v 5==0 then x8 else bif shrI u8 v 5==4 then x8 else bif x9 then bif x11 then x8 else bif shrI u8 v 5==5 then x10 else x8 else bif shrI u8 v 5==3 then x8 else bif shrI u8 v 5==7 then i64.wrap (andI u8 v 7) else bif shrI u8 v 5==6 then i64.wrap (andI u8 v 7) else x8,x7.2))) Ln) Ln) Ln) Ln
def ZQy (p:PICT) (v:Int):PICT:=getO ZUg.Df (Zwf p v).val
def ZDI (p:PICT) (v:Int):Bool:=okB (Zwf p v).val
def ZTb:En:=Zf Zm7 ZUg (λa=>some (ZDI a.1 a.2)) (λa=>ZQy a.1 a.2)
theorem ZQx:Za prog 214 ZTb:=
 pureP 36929657684375896319 [(249,Zzk)] [] _ _ ⟨Zwb,Tv⟩ Tryz.func214 Tryz.call214 trivial
abbrev Zm4:List Sh:=[Sh.agg Zcq,So R.bool,So Ka]
def Zi2 (p:PICT) (h:Bool) (v:Int):RT (Option PICT):=
 .br (h||(andI u8 v 16 !=0||(!andI u8 v 8==0||ZDI p v))) (.br (h) (Ls (ZDH p v)) (.br (andI u8 v 16 !=0) (Ls ((2,andI u8 v 8 !=0,andI u8 v 4 !=0,andI u8 v 2 !=0,andI u8 v 1 !=0,andI u8 v 224,0,false,false,false,false,false,p.2.2.2.2.2.2.2.2.2.2.2.2.1,0,0,0,7,0,0,false))) (.br (andI u8 v 8==0) (Ls (ZQy p v)) (Ls ((p.1,p.2.1,p.2.2.1,p.2.2.2.1,p.2.2.2.2.1,p.2.2.2.2.2.1,p.2.2.2.2.2.2.1,p.2.2.2.2.2.2.2.1,p.2.2.2.2.2.2.2.2.1,bif andI u8 v 64 !=0 then andI u8 v 32 !=0 else p.2.2.2.2.2.2.2.2.2.1,bif andI u8 v 2 !=0 then andI u8 v 1 !=0 else p.2.2.2.2.2.2.2.2.2.2.1,andI u8 v 4 !=0||p.2.2.2.2.2.2.2.2.2.2.2.1,p.2.2.2.2.2.2.2.2.2.2.2.2)))))) Ln
def Zzm (p:PICT) (h:Bool) (v:Int):PICT:=getO ZUg.Df (Zi2 p h v).val
def Zsw (p:PICT) (h:Bool) (v:Int):Bool:=okB (Zi2 p h v).val
def ZQu:En:=Zf Zm4 ZUg (λa=>some (Zsw a.1 a.2.1 a.2.2)) (λa=>Zzm a.1 a.2.1 a.2.2)
theorem ZF0:Za prog 161 ZQu:=
 pureP 4398046519807 [(59,ZDC),(213,ZKS),(214,ZTb)] [] _ _ ⟨ZDB,ZKR,ZQx,Tv⟩ Tryz.func161 Tryz.call161 trivial
abbrev Zsz:List Sh:=[Sh.agg Zcq,So R.bool]
def Zm6 (p:PICT) (h:Bool):RT (Option (PICT×Int)):=
 let x1:= !p.2.2.2.2.2.2.2.2.2.2.2.1
 let x2:PICT:=(p.1,p.2.1,p.2.2.1,p.2.2.2.1,p.2.2.2.2.1,p.2.2.2.2.2.1,p.2.2.2.2.2.2.1,p.2.2.2.2.2.2.2.1,p.2.2.2.2.2.2.2.2.1,p.2.2.2.2.2.2.2.2.2.1,p.2.2.2.2.2.2.2.2.2.2.1,false,p.2.2.2.2.2.2.2.2.2.2.2.2)
 let x3:=h||(x1||Zkg x2)
 let x5:=Za2 x2
 let x6:=decide (x5<0)
 let p1:=x6::x1::h::( !x3)::[]
 let x7:=Zkf x2 x5
 let x8:=ZqF x2 x5
 let x16:=x8.2.2.2.2.2.2.2.1
 let p2:=(!x16)::(!x7)::p1
 let x17:=p.2.2.2.2.2.2.2.2.2.2.2.2.2.2
 .br (orR p2 (ZqG x8 x5)) (.br (orR p1 x7) (.br (x3) (.br (h) (Ls ((p,x17.2.1))) (.br p.2.2.2.2.2.2.2.2.2.2.2.1 (.br (x6) (Ls ((x2,0))) (Ls (((R.sel Zcq x16 (ZF4 x8 x5) x8),u8.wrap (128+u8.wrap x5))))) (.br p.2.2.2.2.2.2.2.2.2.2.1 (Ls ((p,x17.1))) (Ls ((p,ZF1 p)))))) Ln) Ln) Ln
def ZKK (p:PICT) (h:Bool):PICT×Int:=getO ZUd.Df (Zm6 p h).val
def Zzo (p:PICT) (h:Bool):Bool:=okB (Zm6 p h).val
def ZVk:En:=Zf Zsz ZUd (λa=>some (Zzo a.1 a.2)) (λa=>ZKK a.1 a.2)
theorem ZKJ:Za prog 159 ZVk:=
 pureP 8589938943 [(207,ZsD),(210,Zzn),(211,ZKQ),(212,ZKI)] [] _ _ ⟨Zna,Zwd,ZDD,ZDz,Tv⟩ Tryz.func159 Tryz.call159 trivial
def Zwg (p:PICT):RT (Option (PICT×Int)):=
 let x1:=p.2.2.2.2.2.2.2.2.2.2.2.2.2
 let x2:=x1.2
 let x3:=x2.2
 let x4:=x3.2
 let x5:=x4.2
 let x6:=x5.1
 let x7:=x6==0
 let x8:= !x7
 let x9:=x8||Zkg p
 let x10:=p.2.2.2.2.2.2.2.2.2.2.2.2.1
 let x11:=x1.1
 let x12:=x2.1
 let x13:=x3.1
 let x14:=x4.1
 let x15:=x5.2
 let x16:=x15.1
 let x17:PICT:=(p.1,p.2.1,p.2.2.1,p.2.2.2.1,p.2.2.2.2.1,p.2.2.2.2.2.1,p.2.2.2.2.2.2.1,p.2.2.2.2.2.2.2.1,p.2.2.2.2.2.2.2.2.1,p.2.2.2.2.2.2.2.2.2.1,p.2.2.2.2.2.2.2.2.2.2.1,p.2.2.2.2.2.2.2.2.2.2.2.1,x10,x11,x12,x13,x14,x6,x16,decide (Za2 p<0))
 let x18:=ZqF x17 (Za2 p)
 let x19:=x18.2
 let x20:=x19.2
 let x21:=x20.2
 let x22:=x21.2
 let x23:=x22.2
 let x24:=x23.2
 let x25:=x24.2
 let x26:=x25.2
 let x27:=x26.2
 let x28:=x27.2
 let x29:=x28.2
 let x30:=x29.2
 let x31:=x30.2
 let x32:=x31.2
 let x33:=x32.2
 let x34:=x33.2
 let x35:PICT:=(p.1,p.2.1,p.2.2.1,p.2.2.2.1,p.2.2.2.2.1,p.2.2.2.2.2.1,p.2.2.2.2.2.2.1,p.2.2.2.2.2.2.2.1,p.2.2.2.2.2.2.2.2.1,p.2.2.2.2.2.2.2.2.2.1,p.2.2.2.2.2.2.2.2.2.2.1,p.2.2.2.2.2.2.2.2.2.2.2.1,x10,x11,x12,x13,x14,2,x15)
 let x36:=andI i64 x16 7
 let x37:=x15.2
 let x38:=p.2.2.2.2.2.2.2.1&& !x37
 let x39:PICT:=(p.1,p.2.1,p.2.2.1,p.2.2.2.1,p.2.2.2.2.1,p.2.2.2.2.2.1,p.2.2.2.2.2.2.1,p.2.2.2.2.2.2.2.1,p.2.2.2.2.2.2.2.2.1,p.2.2.2.2.2.2.2.2.2.1,p.2.2.2.2.2.2.2.2.2.2.1,p.2.2.2.2.2.2.2.2.2.2.2.1,x10,x11,x12,x13,x14,0,x15)
 let x40:=ZF4 x39 x36
 let x41:=x40.2
 let x42:=x41.2
 let x43:=x42.2
 let x44:=x43.2
 let x45:=x44.2
 let x46:=x45.2
 let x47:Int:=bif x38 then x46.1 else p.2.2.2.2.2.2.1
 let x48:=x46.2
 let x49:=x48.2
 let x50:=x49.2
 let x51:=x50.2
 let x52:=x51.2
 let x53:=x52.2
 let x54:=x53.2
 let x55:=x54.2
 let x56:=x55.2
 let x57:=x56.2
 let x58:=x57.2
 let x59:=x58.2
 .br (!x9||(x8||(decide (Za2 p<0)||Zkf x17 (Za2 p)))) (.br (x9) (.br (x7) (Ls (((bif decide (Za2 p<0) then p.1 else x18.1,bif decide (Za2 p<0) then p.2.1 else x19.1,bif decide (Za2 p<0) then p.2.2.1 else x20.1,bif decide (Za2 p<0) then p.2.2.2.1 else x21.1,bif decide (Za2 p<0) then p.2.2.2.2.1 else x22.1,bif decide (Za2 p<0) then p.2.2.2.2.2.1 else x23.1,bif decide (Za2 p<0) then p.2.2.2.2.2.2.1 else x24.1,bif decide (Za2 p<0) then p.2.2.2.2.2.2.2.1 else x25.1,bif decide (Za2 p<0) then p.2.2.2.2.2.2.2.2.1 else x26.1,bif decide (Za2 p<0) then p.2.2.2.2.2.2.2.2.2.1 else x27.1,bif decide (Za2 p<0) then p.2.2.2.2.2.2.2.2.2.2.1 else x28.1,bif decide (Za2 p<0) then p.2.2.2.2.2.2.2.2.2.2.2.1 else x29.1,bif decide (Za2 p<0) then x10 else x30.1,bif decide (Za2 p<0) then x11 else x31.1,bif decide (Za2 p<0) then x12 else x32.1,bif decide (Za2 p<0) then x13 else x33.1,bif decide (Za2 p<0) then x14 else x34.1,1,bif decide (Za2 p<0) then 7 else Za2 p,bif decide (Za2 p<0) then decide (Za2 p<0) else x34.2.2.2),205))) (.br (x6==1) (.br p.2.2.1 (Ls ((x35,u8.wrap (andI u8 p.2.2.2.2.2.1 224+u8.wrap (i64.wrap (4*x36)))))) (Ls ((x35,u8.wrap (andI u8 p.2.2.2.2.2.1 192+u8.wrap (i64.wrap (8*x36))))))) (.br (!x38||ZqG x39 x36) (Ls (((bif x38 then x40.1 else p.1,bif x38 then x41.1 else p.2.1,bif x38 then x42.1 else p.2.2.1,bif x38 then x43.1 else p.2.2.2.1,bif x38 then x44.1 else p.2.2.2.2.1,bif x38 then x45.1 else p.2.2.2.2.2.1,x47,bif x38 then x48.1 else p.2.2.2.2.2.2.2.1,bif x38 then x49.1 else p.2.2.2.2.2.2.2.2.1,bif x38 then x50.1 else p.2.2.2.2.2.2.2.2.2.1,bif x38 then x51.1 else p.2.2.2.2.2.2.2.2.2.2.1,bif x38 then x52.1 else p.2.2.2.2.2.2.2.2.2.2.2.1,bif x38 then x53.1 else x10,bif x38 then x54.1 else x11,bif x38 then x55.1 else x12,bif x38 then x56.1 else x13,bif x38 then x57.1 else x14,bif x38 then x58.1 else 0,bif x38 then x59.1 else x16,bif x38 then x59.2 else x37),x47))) Ln))) Ln) Ln
def ZVn (p:PICT):PICT×Int:=getO ZUd.Df (Zwg p).val
def ZKU (p:PICT):Bool:=okB (Zwg p).val
def ZYi:En:=Zf ZKF ZUd (λa=>some (ZKU a)) (λa=>ZVn a)
theorem ZQz:Za prog 157 ZYi:=
 pureP 134219839 [(207,ZsD),(210,Zzn),(211,ZKQ)] [] _ _ ⟨Zna,Zwd,ZDD,Tv⟩ Tryz.func157 Tryz.call157 trivial
abbrev ZB9:List Sh:=[Sh.agg (Pq Kb (Pq Ka Kc))]
def ZOK (d:QT3):RT (Bool):=
 .Lf (decide (d.2.2>0))
def ZSp (d:QT3):Bool:=(ZOK d).val
def ZTU:En:=Zf ZB9 ZnA (λ_=>none) (λa=>ZSp a)
theorem ZFi:Za prog 75 ZTU:=
 pureQ 7 [] [] _ _ trivial Tryz.func75 Tryz.call75 trivial
abbrev ZuN:List Sh:=[Sh.agg (Pq Kb (Pq Ka Kc)),So Kc]
def ZCb (d:QT3) (r:Int):RT (Int):=
 .br (andI i64 r 3==0) (.Lf (u8.wrap d.1)) (.br (andI i64 r 3==1) (.Lf (u8.wrap (shrI u16 d.1 8))) (.br (andI i64 r 3==2) (.Lf d.2.1) (.Lf (u8.wrap d.2.2))))
def ZFj (d:QT3) (r:Int):Int:=(ZCb d r).val
def ZXa:En:=Zf ZuN ZMD (λ_=>none) (λa=>ZFj a.1 a.2)
theorem ZOL:Za prog 160 ZXa:=
 pureQ 266399 [] [] _ _ trivial Tryz.func160 Tryz.call160 trivial
abbrev Zpo:List Sh:=[Sh.agg (Pq Kb (Pq Ka Kc)),So Kc,So Ka]
abbrev Zpp:Rs:=Rs.one (Sh.agg (Pq Kb (Pq Ka Kc)))
def ZuM (d:QT3) (r:Int) (v:Int):RT (QT3):=
 .Lf ((bif andI i64 r 3==0 then orI u16 (andI u16 d.1 65280) (u16.wrap v) else bif andI i64 r 3==1 then orI u16 (andI u16 d.1 255) (shlI u16 (u16.wrap v) 8) else d.1,bif andI i64 r 3==0 then d.2.1 else bif andI i64 r 3==1 then d.2.1 else bif andI i64 r 3==2 then v else d.2.1,bif andI i64 r 3==0 then d.2.2 else bif andI i64 r 3==1 then d.2.2 else bif andI i64 r 3==2 then d.2.2 else bif andI i64 r 3==3 then i64.wrap v else d.2.2))
def ZB5 (d:QT3) (r:Int) (v:Int):QT3:=(ZuM d r v).val
def ZSn:En:=Zf Zpo Zpp (λ_=>none) (λa=>ZB5 a.1 a.2.1 a.2.2)
theorem ZHW:Za prog 162 ZSn:=
 pureQ 4563665535 [] [] _ _ trivial Tryz.func162 Tryz.call162 trivial
abbrev ZB7:Rs:=Rs.tup [Sh.agg (Pq Kb (Pq Ka Kc)),Sh.agg (Pq Kb Ka),So R.bool]
def ZOI (d:QT3):RT ((QT3)×(Int×Int)×Bool):=
 .br (!ZSp d) (.Lf (((0,0,0),(0,0),false))) (.Lf (((u16.wrap (d.1+1),d.2.1,i64.wrap (d.2.2-1)),(d.1,d.2.1),true)))
def ZW9 (d:QT3):(QT3)×(Int×Int)×Bool:=(ZOI d).val
def ZZh:En:=Zf ZB9 ZB7 (λ_=>none) (λa=>ZW9 a)
theorem ZSo:Za prog 76 ZZh:=
 pureQ 63 [(75,ZTU)] [] _ _ ⟨ZFi,Tv⟩ Tryz.func76 Tryz.call76 trivial
def mapG {α β:Type} (φ:α->β):Go1 α->Go1 β
 | .cont a=>.cont (φ a)
 | .brk a=>.brk (φ a)
 | .ret a=>.ret (φ a)
theorem ZCR {α β:Type} (φ:α->β) {f:α->Option (Go1 α)} {g:β->Option (Go1 β)} (h:∀a,g (φ a)=(f a).map (mapG φ)):∀(n:Nat) (a:α),runL g n (φ a)=(runL f n a).map λr=>(r.1,φ r.2)
 |0,a=>rfl
 |n+1,a=>by
  unfold runL;rw[h a];cases hf:f a with
  |none=>rfl
  |some r=>cases r with
   |cont a'=>exact ZCR φ h n a'
   |brk a'=>rfl
   |ret a'=>rfl
theorem ZCT {β:Type} (φ:α->β) {f:α->RT (Option (Go1 α))} {g:β->RT (Option (Go1 β))} (h:∀a,(g (φ a)).val=((f a).val).map (mapG φ)) (fl:Bool) (n:Nat) (a:α):
  runF fl g (λ_=>n) (φ a)=(runF fl f (λ_=>n) a).map λr=>(r.1,φ r.2):=by
 unfold runF;rw[ZCR φ h n a];cases runL (λa=>(f a).val) n a with
 |none=>rfl
 |some r=>obtain⟨b,d⟩:=r;cases fl<;>cases b<;>rfl
theorem ZHI:(List.range 256).all (λs=>(List.range 8).all λk=>(Zig (s:Int) (k:Int)).val==some (Zdt (s:Int) (k:Int))&&ZiA (s:Int) (k:Int))=true:=by kernel_rfl
theorem Zyg (k:Int):andI .i64 (andI .i64 k 7) 7=andI .i64 k 7:=by
 obtain⟨h0,h1⟩:=and7 k;generalize andI .i64 k 7=v at*;have:v=0\/v=1\/v=2\/v=3\/v=4\/v=5\/v=6\/v=7:=by omega
 rcases this with rfl|rfl|rfl|rfl|rfl|rfl|rfl|rfl<;>decide
def phiK (a:QT22):QT22:=(a.1,andI .i64 a.2.1 7,a.2.2)
theorem ZQq (s k:Int):(Zig s k).val=(Zig s (andI .i64 k 7)).val:=by
 have h:=ZCT phiK (f:=Zdw) (g:=Zdw) (by
  rintro⟨s,k,r,i,u⟩;simp only[Zdw,phiK,RT.val,Zyg]
  cases h3:(andI u8 (shrI u8 s (andI i64 (i64.wrap (andI i64 k 7+i)) 7)) 1==1)<;>by_cases h1:i<=8<;>by_cases h2:0<=andI i64 (i64.wrap (andI i64 k 7+i)) 7<;>simp[h1,h2,mapG,phiK]) true 9 (s,k,0,1,())
 have h':runF true Zdw (λ_=>9) (s,andI .i64 k 7,0,1,())=(runF true Zdw (λ_=>9) (s,k,0,1,())).map λr=>(r.1,phiK r.2):=h
 simp only[Zig,RT.val,h'];cases runF true Zdw (λ_=>9) (s,k,0,1,()) with
 |none=>rfl
 |some r=>obtain⟨b,d⟩:=r;cases b<;>rfl
theorem ZUe (l k:Int):Zc9 l (andI .i64 k 7)=Zc9 l k:=by simp only[Zc9,ZIs,RT.val,Zyg]
theorem ZUj (s k:Int):(Zmo s k).val=(Zmo s (andI .i64 k 7)).val:=by
 have h:=ZCT phiK (f:=Zdp) (g:=Zdp) (by
  rintro⟨s,k,r,i,u⟩;simp only[Zdp,phiK,RT.val,ZUe]
  cases h3:vOnC s i<;>by_cases h1:i<8<;>by_cases q1:r<0<;>by_cases q2:Zc9 i k<Zc9 r k<;>cases vOn s i<;>simp[h1,q1,q2,mapG,phiK]) false 9 (s,k,-1,0,())
 have h':runF false Zdp (λ_=>9) (s,andI .i64 k 7,-1,0,())=(runF false Zdp (λ_=>9) (s,k,-1,0,())).map λr=>(r.1,phiK r.2):=h
 simp only[Zmo,RT.val,h'];cases runF false Zdp (λ_=>9) (s,k,-1,0,()) with
 |none=>rfl
 |some r=>rfl
theorem ZBL (s k:Int) (hs:inR .u8 s):Zih s k=true/\ZiA s k=true/\Zi1 s k=Zdt s k:=by
 obtain⟨h0,h1⟩:=and7 k;rw[Zgc] at hs;obtain⟨a,rfl⟩:∃a:Nat,s=(a:Int):=⟨s.toNat,by omega⟩;obtain⟨b,hb⟩:∃b:Nat,andI .i64 k 7=(b:Int):=⟨(andI .i64 k 7).toNat,by omega⟩;have key:=YU.1 (YU.1 ZHI a (by simp;omega)) b (by simp;omega);simp only[Yb,YaA] at key;obtain⟨k1,k2⟩:=key;have e1:=ZQq (a:Int) k;have e2:=ZUj (a:Int) k;rw[hb] at e1 e2;rw[k1] at e1;have e3:Zdt (a:Int) k=Zdt (a:Int) (b:Int):=by simp only[Zdt,e2]
 have e4:ZiA (a:Int) k=true:=by simp only[ZiA,e2];exact k2
 refine⟨by simp only[Zih,e1,okB],e4,?_⟩;simp only[Zi1,e1,getO,e3]
theorem ZU2 (l k:Int):Zwa l k=Zc9 l k:=by
 simp only[Zwa,Zzi,Zc9,ZIs,RT.val];obtain⟨a0,a1⟩:=and7 l;obtain⟨b0,b1⟩:=and7 k;generalize andI .i64 l 7=a at*;generalize andI .i64 k 7=b at*;obtain⟨x,rfl⟩:∃x:Nat,a=(x:Int):=⟨a.toNat,by omega⟩;obtain⟨y,rfl⟩:∃y:Nat,b=(y:Int):=⟨b.toNat,by omega⟩;have key:(List.range 8).all (λx=>(List.range 8).all λy=>andI i64 (i64.wrap (i64.wrap ((x:Int)-(y:Int))+7)) 7==andI i64 (i64.wrap (i64.wrap ((x:Int)-(y:Int))+15)) 7)=true:=by kernel_rfl
 have:=YU.1 (YU.1 key x (by simp;omega)) y (by simp;omega);simpa using this
theorem ZDx (r m s k:Int) (p:Bool) (hs:inR .u8 s):Zst r m s k p=true/\Zva r m s k p=true/\ZDv r m s k p=ZFy r m s k p:=by
 obtain⟨a1,a2,a3⟩:=ZBL (Z1 u8 r m) k (Zaq _ _);have hb:inR .u8 (ZcK m s p):=by
  cases p
  ·simpa [ZcK,Zmq,RT.val] using hs
  ·have:ZcK m s true=Z1 u8 s m:=by simp[ZcK,Zmq,RT.val]
   rw[this];exact Zaq _ _
 have eb:(bif p then Z1 u8 s m else s)=ZcK m s p:=by cases p<;>simp[ZcK,Zmq,RT.val]
 obtain⟨b1,b2,b3⟩:=ZBL (ZcK m s p) k hb;have h1:(Zm3 r m s k p).val=(Zmn r m s k p).val:=by
  simp only[Zm3,Zmn,RT.val,eb,a1,a2,b1,b2,a3,b3,ZU2,Ya,Yk];generalize Zdt (Z1 u8 r m) k=x;generalize Zdt (ZcK m s p) k=y;by_cases q1:x<0
  ·have:¬x>=0:=by omega
   simp[q1,this]
  ·have q1':x>=0:=by omega
   by_cases q2:y<0
   ·have:¬y>=0:=by omega
    simp[q1,q1',q2,this]
   ·have q2':y>=0:=by omega
    by_cases q3:Zc9 x k<Zc9 y k
    ·have:¬Zc9 x k>=Zc9 y k:=by omega
     simp[q1,q1',q2,q2',q3,this]
    ·have q3':Zc9 x k>=Zc9 y k:=by omega
     simp[q1,q1',q2,q2',q3,q3']
 have h2:Zva r m s k p=true:=by simp only[Zva,Zmn,RT.val,a2,b2,Ya];cases (decide (Zdt (Z1 u8 r m) k>=0)&&(decide (Zdt (ZcK m s p) k<0)||decide (Zc9 (Zdt (Z1 u8 r m) k) k<Zc9 (Zdt (ZcK m s p) k) k)))<;>rfl
 refine⟨?_,h2,by simp only[ZDv,ZFy,h1]⟩;simp only[Zst,h1];exact h2
theorem ZJL (p:PICT):ZF1 p=vReq p:=by simp only[ZF1,ZKG,vReq,ZXt,RT.val]
theorem ZP9 (p:PICT) (l:Int):Zzq p l=ZkW p l:=by simp only[Zzq,ZsB,ZkW,ZIt,RT.val]
theorem ZK3 (p:PICT) (hs:inR .u8 p.2.2.2.2.2.2.2.2.2.2.2.2.2.2.1):Zkg p=true/\Zrv p=true/\Za2 p=vPck p:=by
 obtain⟨h1,h2,h3⟩:=ZDx (vReq p) p.2.2.2.2.2.2.2.2.2.2.2.2.2.2.2.1 p.2.2.2.2.2.2.2.2.2.2.2.2.2.2.1 p.2.2.2.2.2.2.2.2.2.2.2.2.2.2.2.2.1 p.2.2.2.2.2.2.2.2.2.1 hs;have e1:(Znb p).val=some (ZFy (vReq p) p.2.2.2.2.2.2.2.2.2.2.2.2.2.2.2.1 p.2.2.2.2.2.2.2.2.2.2.2.2.2.2.1 p.2.2.2.2.2.2.2.2.2.2.2.2.2.2.2.2.1 p.2.2.2.2.2.2.2.2.2.1):=by simp only[Znb,RT.val,ZJL,h1,h3,Ya]
 have e2:(ZFz p).val=some (ZFy (vReq p) p.2.2.2.2.2.2.2.2.2.2.2.2.2.2.2.1 p.2.2.2.2.2.2.2.2.2.2.2.2.2.2.1 p.2.2.2.2.2.2.2.2.2.2.2.2.2.2.2.2.1 p.2.2.2.2.2.2.2.2.2.1):=by simp only[ZFz,RT.val,h2,Ya]
 exact⟨by simp only[Zkg,e1,okB],by simp only[Zrv,e2,okB],by simp only[Za2,vPck,e1,e2]⟩
theorem ZTM (p:PICT) (hs:inR .u8 p.2.2.2.2.2.2.2.2.2.2.2.2.2.2.1):ZKN p=true/\ZXw p=true/\ZVm p=vInt p:=by
 obtain⟨h1,h2,h3⟩:=ZDx (vReq p) p.2.2.2.2.2.2.2.2.2.2.2.2.2.2.2.1 p.2.2.2.2.2.2.2.2.2.2.2.2.2.2.1 p.2.2.2.2.2.2.2.2.2.2.2.2.2.2.2.2.1 p.2.2.2.2.2.2.2.2.2.1 hs;obtain⟨g1,g2,g3⟩:=ZK3 p hs;have e2:(ZPv p).val=some (decide (vPck p>=0)):=by simp only[ZPv,RT.val,g2,Ya]
 have e1:(Zwe p).val=some (decide (vPck p>=0)):=by simp only[Zwe,RT.val,g1,g3,ZJL,h1,h3,Ya]
 exact⟨by simp only[ZKN,e1,okB],by simp only[ZXw,e2,okB],by simp only[ZVm,vInt,e1,e2]⟩
theorem ZOu (d):ZSp d=Zaa d:=by simp only[ZSp,ZOK,Zaa,Zu8,RT.val]
theorem ZOt (d:QT3) (r v:Int):ZB5 d r v=Zh4 d r v:=by
 obtain⟨h0,h3⟩:=and3 r;simp only[ZB5,ZuM,Zh4,ZCr,RT.val];generalize andI .i64 r 3=q at*;have:q=0\/q=1\/q=2\/q=3:=by omega
 rcases this with rfl|rfl|rfl|rfl<;>simp
theorem ZW6 (d):ZW9 d=ZbF d:=by simp only[ZW9,ZOI,ZbF,ZjV,RT.val,ZOu]
theorem ZSe (d:QT3) (r:Int):ZIr d r=true/\ZFj d r=Zmm d r:=by
 obtain⟨h0,h3⟩:=and3 r;have hv:(Zru d r).val=some (ZFj d r):=by
  simp only[Zru,ZFj,ZCb,RT.val];generalize andI .i64 r 3=q at*;have:q=0\/q=1\/q=2\/q=3:=by omega
  rcases this with rfl|rfl|rfl|rfl<;>simp[iN,Le]
 exact⟨by simp only[ZIr,hv,okB],by simp only[Zmm,hv,getO]⟩
theorem ZPJ (p:PICT) (x:Int):Zsx p x=Zu7 p x:=rfl
theorem ZJa (p:PICT) (x:Int):ZqF p x=ZFx p x/\Zkf p x=ZhN p x:=by simp only[ZqF,ZFx,Zkf,ZhN,ZPJ];exact⟨trivial,Tv⟩
theorem ZWY (p:PICT) (x:Int):ZDE p x=ZCv p x:=rfl
theorem ZTQ (p:PICT) (x:Int):ZF4 p x=ZIu p x/\ZqG p x=ZiB p x:=by simp only[ZF4,ZIu,ZqG,ZiB,ZWY];exact⟨trivial,Tv⟩
theorem ZXd (p:PICT) (v:Int):ZDH p v=Zrx p v:=by simp only[ZDH,Zzt,Zrx,Zvd,RT.val];cases p.2.2.2.1<;>rfl
theorem ZST (p:PICT) (x:Int):ZqF p x=ZFx p x:=(ZJa p x).1
theorem ZSS (p:PICT) (x:Int):Zkf p x=ZhN p x:=(ZJa p x).2
theorem ZZb (p:PICT) (x:Int):ZF4 p x=ZIu p x:=(ZTQ p x).1
theorem ZZa (p:PICT) (x:Int):ZqG p x=ZiB p x:=(ZTQ p x).2
theorem ZXo (p:PICT) (hs:inR .u8 p.2.2.2.2.2.2.2.2.2.2.2.2.2.2.1):(Zwg p).val=(ZIv p).val:=by
 obtain⟨g1,g2,g3⟩:=ZK3 p hs;have hd:decide (vPck p>=0)= !decide (vPck p<0):=by
  by_cases h:vPck p<0
  ·have:¬vPck p>=0:=by omega
   simp[h,this]
  ·have:vPck p>=0:=by omega
   simp[h,this]
 simp only[Zwg,ZIv,RT.val,g1,g2,g3,ZST,ZSS,ZZb,ZZa,hd];cases h:decide (vPck p<0)
 ·have h0:decide (0<=vPck p)=true:=by simp at h|-;omega
  simp only[ZFx,ZhN,Zu7,RT.val,h0,getO,okB,Yh,Ym,Ya,Yc,Yw,Yj]
 ·simp only[Yh,Ym,Ya,Yc,Yw,Yj]
theorem ZT6 (p:PICT) (hs:inR .u8 p.2.2.2.2.2.2.2.2.2.2.2.2.2.2.1):ZVn p=vAck p/\ZKU p=ZPw p:=by simp only[ZVn,vAck,ZKU,ZPw,ZXo p hs];exact⟨trivial,Tv⟩
theorem ZYU (x:Int):decide (x>=0)= !decide (x<0):=by by_cases h:x<0<;>simp[h]<;>omega
theorem ZYW (x:Int):decide (0<=x)= !decide (x<0):=by by_cases h:x<0<;>simp[h]<;>omega
theorem ZRp (p:PICT) (v:Int) (hs:inR .u8 p.2.2.2.2.2.2.2.2.2.2.2.2.2.2.1):(Zwf p v).val=(Zvb p v).val:=by
 have eb:(bif p.2.2.2.2.2.2.2.2.2.1 then Z1 u8 p.2.2.2.2.2.2.2.2.2.2.2.2.2.2.1 p.2.2.2.2.2.2.2.2.2.2.2.2.2.2.2.1 else p.2.2.2.2.2.2.2.2.2.2.2.2.2.2.1)=ZcK p.2.2.2.2.2.2.2.2.2.2.2.2.2.2.2.1 p.2.2.2.2.2.2.2.2.2.2.2.2.2.2.1 p.2.2.2.2.2.2.2.2.2.1:=by cases p.2.2.2.2.2.2.2.2.2.1<;>simp[ZcK,Zmq,RT.val]
 have hb:inR .u8 (ZcK p.2.2.2.2.2.2.2.2.2.2.2.2.2.2.2.1 p.2.2.2.2.2.2.2.2.2.2.2.2.2.2.1 p.2.2.2.2.2.2.2.2.2.1):=by
  rw[<-eb];cases p.2.2.2.2.2.2.2.2.2.1
  ·exact hs
  ·exact Zaq _ _
 obtain⟨h1,h2,h3⟩:=ZBL _ p.2.2.2.2.2.2.2.2.2.2.2.2.2.2.2.2.1 hb;have h4:decide (0<=wrap .i64 (andI .u8 v 7))=true:=by have:=ZZp v;rw[wrap_i64 _ (by omega) (by omega)];exact Yz this.1
 simp only[Zwf,Zvb,RT.val,eb,h1,h2,h3,h4,ZYU,ZYW,ZbO,ZaW,Yk,Yh,YaS,Bool.not_not,Yx,Yj,Ya,Yc];generalize shrI u8 v 5=w;generalize Zdt _ _=t;by_cases w0:w=0
 ·subst w0;rfl
 by_cases w1:w=1
 ·subst w1;cases decide (t<0)<;>rfl
 by_cases w3:w=3
 ·subst w3;rfl
 by_cases w4:w=4
 ·subst w4;rfl
 by_cases w5:w=5
 ·subst w5;cases decide (t<0)<;>rfl
 by_cases w6:w=6
 ·subst w6;rfl
 by_cases w7:w=7
 ·subst w7;rfl
 have e0:(w==0)=false:=by simpa using w0
 have e1:(w==1)=false:=by simpa using w1
 have e3:(w==3)=false:=by simpa using w3
 have e4:(w==4)=false:=by simpa using w4
 have e5:(w==5)=false:=by simpa using w5
 have e6:(w==6)=false:=by simpa using w6
 have e7:(w==7)=false:=by simpa using w7
 rw[e0,e1,e3,e4,e5,e6,e7];rfl
theorem ZWj (p:PICT) (v:Int) (hs:inR .u8 p.2.2.2.2.2.2.2.2.2.2.2.2.2.2.1):ZQy p v=ZUh p v/\ZDI p v=Zvc p v:=by simp only[ZQy,ZUh,ZDI,Zvc,ZRp p v hs];exact⟨trivial,Tv⟩
theorem ZId (p:PICT) (h:Bool) (v:Int) (hs:inR .u8 p.2.2.2.2.2.2.2.2.2.2.2.2.2.2.1):(Zi2 p h v).val=(Zmk p h v).val:=by obtain⟨h1,h2⟩:=ZWj p v hs;have hf:Zmp p v=(2,andI u8 v 8 !=0,andI u8 v 4 !=0,andI u8 v 2 !=0,andI u8 v 1 !=0,andI u8 v 224,0,false,false,false,false,false,p.2.2.2.2.2.2.2.2.2.2.2.2.1,0,0,0,7,0,0,false):=rfl;simp only[Zi2,Zmk,RT.val,h1,h2,hf,ZXd,Bool.or_comm (andI u8 v 4 !=0)]
theorem ZCk (p:PICT) (h:Bool) (v:Int) (hs:inR .u8 p.2.2.2.2.2.2.2.2.2.2.2.2.2.2.1):Zzm p h v=Zml p h v/\Zsw p h v=Zrt p h v:=by simp only[Zzm,Zml,Zsw,Zrt,ZId p h v hs];exact⟨trivial,Tv⟩
def Zry (p:PICT):PICT:=(p.1,p.2.1,p.2.2.1,p.2.2.2.1,p.2.2.2.2.1,p.2.2.2.2.2.1,p.2.2.2.2.2.2.1,p.2.2.2.2.2.2.2.1,p.2.2.2.2.2.2.2.2.1,p.2.2.2.2.2.2.2.2.2.1,p.2.2.2.2.2.2.2.2.2.2.1,false,p.2.2.2.2.2.2.2.2.2.2.2.2)
theorem Zp1 (p:PICT):vPck (Zry p)=vPck p/\Zrv (Zry p)=Zrv p:=⟨rfl,rfl⟩
theorem ZQs (x:Int) (h0: -1<=x) (h1:x<=7):wrap .u8 (128+wrap .u8 x)=wrap .u8 (wrap .i64 (128+x)):=by
 have:x= -1\/x=0\/x=1\/x=2\/x=3\/x=4\/x=5\/x=6\/x=7:=by omega
 rcases this with rfl|rfl|rfl|rfl|rfl|rfl|rfl|rfl|rfl<;>decide
theorem ZP7 (p:PICT) (h:Bool) (hs:inR .u8 p.2.2.2.2.2.2.2.2.2.2.2.2.2.2.1):(Zm6 p h).val=(Zu9 p h).val:=by obtain⟨g1,g2,g3⟩:=ZK3 (Zry p) hs;rw[(Zp1 p).1] at g3;rw[(Zp1 p).2] at g2;obtain⟨_,a1,a2⟩:=Zyo p;have hx:(p.1,p.2.1,p.2.2.1,p.2.2.2.1,p.2.2.2.2.1,p.2.2.2.2.2.1,p.2.2.2.2.2.2.1,p.2.2.2.2.2.2.2.1,p.2.2.2.2.2.2.2.2.1,p.2.2.2.2.2.2.2.2.2.1,p.2.2.2.2.2.2.2.2.2.2.1,false,p.2.2.2.2.2.2.2.2.2.2.2.2)=Zry p:=rfl;simp only[Zm6,Zu9,RT.val,hx,g1,g2,g3,ZST,ZSS,ZZb,ZZa,ZJL,ZQs _ a1 a2,ZbO,ZaW,Yk,Yh,Yj]
theorem ZJO (p:PICT) (h:Bool) (hs:inR .u8 p.2.2.2.2.2.2.2.2.2.2.2.2.2.2.1):ZKK p h=ZpL p h/\Zzo p h=ZCt p h:=by simp only[ZKK,ZpL,Zzo,ZCt,ZP7 p h hs];exact⟨trivial,Tv⟩
theorem Zk7 {p:PICT} (h:okHL ZKF p):inR .u8 p.2.2.2.2.2.2.2.2.2.2.2.2.2.2.1:=h.2.2.2.2.2.2.2.2.2.2.2.2.2.2.1
def Zzr:En:=Zf ZKF ZnA (λ_=>none) (λa=>vInt a)
theorem ZKO:Za prog 153 Zzr:=ZQw.tot (λa h=>by have:=(ZTM a (Zk7 h)).1;simp[this]) (λa h=>(ZTM a (Zk7 h)).2.2)
def Zm9:En:=Zf Zm7 ZUg (λ_=>none) (λa=>ZkW a.1 a.2)
theorem Zzp:Za prog 152 Zm9:=ZF3.tot (λa h=>by simp) (λa h=>ZP9 _ _)
def Zm5:En:=Zf Zm4 ZUg (λ_=>none) (λa=>Zml a.1 a.2.1 a.2.2)
theorem Zzl:Za prog 161 Zm5:=ZF0.tot (λa h=>by have h1:=(ZCk a.1 a.2.1 a.2.2 (Zk7 h.1)).2;have h2:=ZIq a.1 a.2.1 a.2.2;rw[h2] at h1;simp[h1]) (λa h=>(ZCk a.1 a.2.1 a.2.2 (Zk7 h.1)).1)
def ZsA:En:=Zf Zsz ZUd (λ_=>none) (λa=>ZpL a.1 a.2)
theorem ZF2:Za prog 159 ZsA:=ZKJ.tot (λa h=>by have h1:=(ZJO a.1 a.2 (Zk7 h.1)).2;have h2:=ZPs a.1 a.2;rw[h2] at h1;simp[h1]) (λa h=>(ZJO a.1 a.2 (Zk7 h.1)).1)
def Zzw:En:=Zf ZKF ZUd (λ_=>none) (λa=>vAck a)
theorem ZKV:Za prog 157 Zzw:=ZQz.tot (λa h=>by have h1:=(ZT6 a (Zk7 h)).2;have h2:=ZUn a;rw[h2] at h1;simp[h1]) (λa h=>(ZT6 a (Zk7 h)).1)
def Zpr:En:=Zf ZB9 ZnA (λ_=>none) (λa=>Zaa a)
theorem Zx2:Za prog 75 Zpr:=ZFi.tot (λa h=>by simp) (λa h=>ZOu _)
def ZuP:En:=Zf ZuN ZMD (λ_=>none) (λa=>Zmm a.1 a.2)
theorem ZHX:Za prog 160 ZuP:=ZOL.tot (λa h=>by simp) (λa h=>(ZSe _ _).2)
def Zpq:En:=Zf Zpo Zpp (λ_=>none) (λa=>Zh4 a.1 a.2.1 a.2.2)
theorem ZB4:Za prog 162 Zpq:=ZHW.tot (λa h=>by simp) (λa h=>ZOt _ _ _)
def ZB8:En:=Zf ZB9 ZB7 (λ_=>none) (λa=>ZbF a)
theorem ZOJ:Za prog 76 ZB8:=ZSo.tot (λa h=>by simp) (λa h=>ZW6 _)
def ZuS:En:=Zf [.one (.sl (Pq Kb Ka))] (.one (.one (.sl (Pq Kb Ka)))) (λl=>some (Nat.ble l.length most)) (λl=>l)
theorem ZHY:Za prog 58 ZuS:=
 ZRs (P:=prog) (n:=15) (k:=8) (l:=[]) (ol:=[]) trivial Tryz.func58 rfl (by kernel_rfl) Tryz.call58 trivial (r:=Pq (R.int u16) (R.int u8)) (rs:=.one (.one (.sl (Pq (R.int u16) (R.int u8))))) (pre:=λl=>Nat.ble l.length most) (F:=λl=>l) (by kernel_rfl)
  (λl h=>by
   have e:(evOf (envX prog [] [] 15 8) Tryz.f58 (.one (.one (.sl (Pq (R.int u16) (R.int u8))))) [.w (.one (.lst (Pq (R.int u16) (R.int u8)) false false true l))]).val=cond (Nat.ble ([]++l).length most) (some ([]++l)) none:=by kernel_rfl
   rw[e,List.nil_append,h];rfl)
abbrev Zx8:List Sh:=[Sh.agg (Pq Kc (Pq rcRG (Pq Kc (Pq Ka (Pq Ka (Pq R.bool rcCE))))))]
def ZjO (b:BRDT):RT (Option (Int)):=
 .br (b.1 !=1&&b.1 !=2) (Ls (1)) (.br (smG b.2.1) (.br (ZbM b.2.1 !=0) (Ls (ZbM b.2.1)) (.br (decide (b.2.2.1<0)||(decide (b.2.2.1>100)||smC b.2.2.2.2.2.2)) (.br (decide (b.2.2.1<0)||(decide (b.2.2.1>100)|| !vldB b.2.2.2.2.2.2)) (Ls (1)) (Ls (0))) Ln)) Ln)
def Zit (b:BRDT):Int:=getO ZTl.Df (ZjO b).val
def ZjP (b:BRDT):Bool:=okB (ZjO b).val
def ZuW:En:=Zf Zx8 ZTl (λa=>some (ZjP a)) (λa=>Zit a)
theorem ZH0:Za Tryz.prog 56 ZuW:=
 pureP 15 [(139,Zwo),(140,ZEI)] [] _ _ ⟨ZzI,ZHw,Tv⟩ Tryz.func56 Tryz.call56 trivial
theorem ZO5 (b:BRDT):(ZjO b).val=(ZfD b).val:=by simp only[ZjO,ZfD,RT.val]
theorem ZH1 (b:BRDT):Zit b=Zci b/\ZjP b=Zmf b:=by simp only[Zit,Zci,ZjP,Zmf,ZO5];exact⟨trivial,Tv⟩
theorem ZRA (k:Int):(bif k==1 then k==1 else bif k==2 then k==2 else bif k==3 then k==3 else bif k==4 then k==4 else k==5)=(decide (k>=1)&&decide (k<=5)):=by
 by_cases h1:k=1
 ·subst h1;rfl
 by_cases h2:k=2
 ·subst h2;rfl
 by_cases h3:k=3
 ·subst h3;rfl
 by_cases h4:k=4
 ·subst h4;rfl
 by_cases h5:k=5
 ·subst h5;rfl
 have e1:(k==1)=false:=by simpa using h1
 have e2:(k==2)=false:=by simpa using h2
 have e3:(k==3)=false:=by simpa using h3
 have e4:(k==4)=false:=by simpa using h4
 have e5:(k==5)=false:=by simpa using h5
 rw[e1,e2,e3,e4,e5];simp;omega
theorem ZPQ (c:CORT):(c.2.2.2.2.1==7)=(Zq c==7):=by
 have:Zq c=Z2 c.2.2.2.2.1:=rfl;rw[this];unfold Z2;cases h:decide (c.2.2.2.2.1<1)||decide (c.2.2.2.2.1>9)
 ·rfl
 ·simp at h;have:(c.2.2.2.2.1==7)=false:=by simp;omega
  rw[this];rfl
theorem Zlt (s:SYST):(bif s.1.2.2.2.2.1==7 then i64.wrap (s.2.2.2.2.1+1) else 0)=ZcD s:=by unfold ZcD ZCn;rw[ZPQ];simp only[RT.val,bne];cases Zq s.1==7<;>rfl
theorem ZQD {p q:Int} (hp:inR .u8 p) (hq:inR .u8 q):(decide (wrap .u8 (p-q)<2)=(p==q||p==wrap .u8 (q+1)))/\(decide (wrap .u8 (p-q)<2)=true->(wrap .u8 (p-q)==1)=(p==wrap .u8 (q+1))):=by
 rw[Zgc] at hp hq;have e1:wrap .u8 (p-q)=(p-q)%256:=ZjS _;have e2:wrap .u8 (q+1)=(q+1)%256:=ZjS _;rw[e1,e2];refine⟨?_,λh=> ?_⟩
 ·rw[Bool.eq_iff_iff];simp only[Yf,YM,YaA];omega
 ·rw[Bool.eq_iff_iff];simp only[YaA];simp only[Yf] at h;omega
theorem ZEQ (n:Int):(if (if 100<n then 100 else n)>0 then if 100<n then 100 else n else 0)=Zqw n:=by unfold Zqw ZJ7;simp only[RT.val]
theorem ZWs (b:BRDT) (x:TY) (hg:smG b.2.1=true):ZT9 b x=bif decide (x.1>=1)&&decide (x.1<=5) then Ziv b.2.1 x.2.1 else bif x.1==6||x.1==7 then Zqw b.2.2.1 else 0:=by
 have hv:(ZIg b x).val=some (bif decide (x.1>=1)&&decide (x.1<=5) then Ziv b.2.1 x.2.1 else bif x.1==6||x.1==7 then Zqw b.2.2.1 else 0):=by
  unfold ZIg;simp only[RT.val,hg,Yk,Ya];cases decide (x.1>=1)&&decide (x.1<=5)
  ·cases x.1==6||x.1==7<;>rfl
  ·rfl
 simp only[ZT9,hv,getO]
theorem ZI4 (d:QT3):ZbF d=bif Zaa d then ((wrap .u16 (d.1+1),d.2.1,wrap .i64 (d.2.2-1)),(d.1,d.2.1),true) else ((0,0,0),(0,0),false):=by unfold ZbF ZjV;simp only[RT.val];cases Zaa d<;>rfl
theorem pstR (c:CORT):ZbG c=Zq c:=rfl
theorem bus_p (b:BRDT) (t:SYST) (i:INPT) (x5 x20 x71 x72:Bool) (h5:x5=(!i.2.2.1&&(Zq t.1==3&&Zba t.1.2.2.2.1.1))) (h20:x20=(t.1.2.2.2.1.1==8||t.1.2.2.2.1.1==9)) (hq:x71=(Ze9 b (wrap .u8 t.1.2.2.2.1.2.1)).2) (hq2:x71=true->x72=(Ze9 b (wrap .u8 t.1.2.2.2.1.2.1)).1) (hj:b.2.2.2.2.2.1=true->x71=false):
  busS b t i=((t.1,t.2.1,(bif x5 then bif decide (t.1.2.2.2.1.1>=1)&&decide (t.1.2.2.2.1.1<=5) then t.2.2.1 else bif x20 then (bif !b.2.2.2.2.2.1 then (vAck t.2.2.1).1 else t.2.2.1) else bif x71 then (ZpL t.2.2.1 x72).1 else t.2.2.1 else t.2.2.1),t.2.2.2),
   bif x5 then bif decide (t.1.2.2.2.1.1>=1)&&decide (t.1.2.2.2.1.1<=5) then ZkZ b.2.1 t.2.1 t.1.2.2.2.1.2.1 else bif x20 then (bif !b.2.2.2.2.2.1 then (vAck t.2.2.1).2 else i.2.2.2.2.2.2.2.2.2) else bif x71 then (ZpL t.2.2.1 x72).2 else bif (Zix b (wrap .u8 t.1.2.2.2.1.2.1)).2 then Zmm t.2.2.2.1 (Zix b (wrap .u8 t.1.2.2.2.1.2.1)).1 else i.2.2.2.2.2.2.2.2.2 else 0):=by
 unfold busS;dsimp only;have e:(i.2.2.1||(Zq t.1 !=3|| !Zba t.1.2.2.2.1.1))= !x5:=by rw[h5,bne];cases i.2.2.1<;>cases Zq t.1==3<;>cases Zba t.1.2.2.2.1.1<;>rfl
 rw[e];cases hx:x5
 ·rfl
 ·simp only[Yh,Ya,Yc];cases hm:decide (t.1.2.2.2.1.1>=1)&&decide (t.1.2.2.2.1.1<=5)
  ·simp only[Yc];have h6:(t.1.2.2.2.1.1 !=6)=x20:=by
    rw[h5] at hx;simp only[Yb] at hx;have hr:=hx.2.2;unfold Zba Zy1 at hr;simp only[RT.val] at hr;simp at hr hm;rw[h20];have:t.1.2.2.2.1.1=6\/t.1.2.2.2.1.1=8\/t.1.2.2.2.1.1=9:=by omega
    rcases this with h|h|h<;>rw[h]<;>rfl
   rw[h6,<-hq];cases x20
   ·simp only[YZ,Yc];cases hz:x71
    ·simp only[Yc];cases (Zix b (wrap .u8 t.1.2.2.2.1.2.1)).2<;>rfl
    ·simp only[Ya];rw[hq2 hz]
   ·simp only[YQ,Ya];cases b.2.2.2.2.2.1<;>rfl
  ·rfl
theorem ZTK (b:BRDT) (p:Int):Ze9 b p=(p==wrap .u8 (b.2.2.2.1+1),!b.2.2.2.2.2.1&&(p==b.2.2.2.1||p==wrap .u8 (b.2.2.2.1+1))):=by unfold Ze9 ZIh;simp only[RT.val];cases b.2.2.2.2.2.1<;>cases p==b.2.2.2.1<;>rfl
theorem ZTL (b:BRDT) (p:Int):Zix b p=(wrap .i64 (wrap .u8 (p-b.2.2.2.2.1)),decide (wrap .u8 (p-b.2.2.2.2.1)<4)):=by unfold Zix ZIi;simp only[RT.val]
theorem ZOO (w x y:Int) (a:Bool):decide (w>=bif a then x else y)=bif a then decide (w>=x) else decide (w>=y):=by cases a<;>rfl
theorem ZWF (b:BRDT) (s:SYST) (i:INPT) (hg:smG b.2.1=true):Zbr b (Zt b s i) i=(i.1&&(bif decide (s.1.2.2.2.1.1>=1)&&decide (s.1.2.2.2.1.1<=5) then decide (ZcD s>=Ziv b.2.1 s.1.2.2.2.1.2.1) else bif s.1.2.2.2.1.1==6||s.1.2.2.2.1.1==7 then decide (ZcD s>=Zqw b.2.2.1) else decide (ZcD s>=0)),
  i.2.1||Zaa s.2.2.2.1,i.2.2.1,i.2.2.2.1,i.2.2.2.2.1,i.2.2.2.2.2.1,i.2.2.2.2.2.2.1,i.2.2.2.2.2.2.2.1,bif b.2.2.2.2.2.1 then andI .u8 i.2.2.2.2.2.2.2.2.1 1==1 else vInt (ZkW s.2.2.1 i.2.2.2.2.2.2.2.2.1)):=by
 unfold Zbr;have e1:ZcD (Zt b s i)=ZcD s:=rfl;have e2:(Zt b s i).1=s.1:=rfl;have e3:(Zt b s i).2.2.2.1=s.2.2.2.1:=rfl;rw[e1,e2,e3,ZWs b _ hg,ZOO,ZOO];have e4:(Zt b s i).2.2.1=bif !b.2.2.2.2.2.1 then ZkW s.2.2.1 i.2.2.2.2.2.2.2.2.1 else s.2.2.1:=rfl
 rw[e4];cases b.2.2.2.2.2.1<;>simp only[Ya,Yc,Yh,Ym]
def inpX (a b c k:Int):INPT:=bif k !=ZhM a b c then ZN else
 (andI u8 a 1==0,andI u8 a 2 !=0,andI u8 a 4 !=0,andI u8 a 8 !=0,andI u8 a 16 !=0,andI u8 a 32 !=0,andI u8 a 64 !=0,andI u8 a 128 !=0,b,c)
def decX:List Int->List INPT
 |a::b::c::k::l=>inpX a b c k::decX l
 |_=>[]
theorem drop4 (l:List Int) (i:Nat) (h:i+4<=l.length):l.drop i=R.get (R.int .u8) l (i:Int)::R.get (R.int .u8) l ((i+1:Nat):Int)::R.get (R.int .u8) l ((i+2:Nat):Int)::R.get (R.int .u8) l ((i+3:Nat):Int)::l.drop (i+4):=by
 have hg:∀j:Nat,(hj:j<l.length)->R.get (R.int .u8) l (j:Int)=l[j]:=λj hj=>by simp[R.get,hj]
 rw[Yaa (by omega:i<l.length),Yaa (by omega:i+1<l.length),Yaa (by omega:i+1+1<l.length),Yaa (by omega:i+1+1+1<l.length)];rw[hg i (by omega),hg (i+1) (by omega),hg (i+2) (by omega),hg (i+3) (by omega)]
theorem ZOM (h:l.length<4):decX l=[]:=by
 match l with
 |[]=>rfl
 |[_]=>rfl
 |[_,_]=>rfl
 |[_,_,_]=>rfl
 |_::_::_::_::_=>simp at h;omega
theorem dec_len:∀l:List Int,(decX l).length=l.length/4
 |a::b::c::k::l=>by have:=dec_len l;simp only[decX,List.length_cons,this];omega
 |[]=>by simp[decX]
 |[_]=>by simp[decX]
 |[_,_]=>by simp[decX]
 |[_,_,_]=>by simp[decX]
theorem ZOd (b:BRDT) (s0:TC):∀(l:List INPT) (st:STT),∃t,(ZeK b s0 st l).2.1=st.2.1++t/\t.length=l.length
 |[],st=>⟨[],by simp[ZeK],rfl⟩
 |i::l,st=>by obtain⟨t,h,hl⟩:=ZOd b s0 l (ZcL b s0 st i);refine⟨(Zah b st.1 i).2.1::t,?_,by simp[hl]⟩;show (ZeK b s0 (ZcL b s0 st i) l).2.1=_;rw[h];show (st.2.1++[(Zah b st.1 i).2.1])++t=_;simp
def NoO (ev:List EVTT):Prop:=∀e∈ev,e.1≠7
theorem NoO.snoc {ev:List EVTT} (h:NoO ev) {e:EVTT} (he:e.1≠7):NoO (ev++[e]):=λx hx=>by
 rcases YV.1 hx with hx|hx
 ·exact h x hx
 ·rw[Y8] at hx;subst hx;exact he
def ZCQ (a:Int) (b:Int) (c:Int):RT (Int):=
 .Lf (xorI u8 (xorI u8 (xorI u8 a b) c) 165)
def ZyL (a:Int) (b:Int) (c:Int):Int:=(ZCQ a b c).val
def ZrT:En:=Zf ZCp ZMD (λ_=>none) (λa=>ZyL a.1 a.2.1 a.2.2)
theorem Zqk:Za prog 61 ZrT:=
 pureQ 127 [] [] _ _ trivial Tryz.func61 Tryz.call61 trivial
def ZJn:RT INPT:=
 .Lf ((true,false,false,false,false,false,false,false,0,0))
def Zf9:INPT:=(ZJn).val
def ZyI:En:=Zf Zv5 ZIk (λ_=>none) (λa=>Zf9)
theorem ZvC:Za prog 60 ZyI:=
 pureQ 1 [] [] _ _ trivial Tryz.func60 Tryz.call60 trivial
def Zff:En:=.tree (Zo (envX prog [] [] 15 8) Tryz.f143)
theorem Zh8:Za prog 143 Zff:=ZL trivial Tryz.func143 rfl (by kernel_rfl) Tryz.call143 trivial
def ZCN (c:Int):RT INPT:=
 .Lf ((!andI u8 (shrI u8 c 0) 1==1,andI u8 (shrI u8 c 1) 1==1,andI u8 (shrI u8 c 2) 1==1,andI u8 (shrI u8 c 3) 1==1,andI u8 (shrI u8 c 4) 1==1,andI u8 (shrI u8 c 5) 1==1,andI u8 (shrI u8 c 6) 1==1,andI u8 (shrI u8 c 7) 1==1,0,0))
def Zay (c:Int):INPT:=(ZCN c).val
def ZrQ:En:=Zf Zwz ZIk (λ_=>none) (λa=>Zay a)
theorem Zqi:Za prog 62 ZrQ:=
 pureQ 15 [(143,Zff)] [] _ _ ⟨Zh8,Tv⟩ Tryz.func62 Tryz.call62 trivial
abbrev Zhj:List Sh:=[So (R.sl Ka)]
def ZyK:LS:={n:=44,Sl:=[(0,.code (So (R.sl Ka))),(3,.tip 0)],Bx:=[],Sg:=[⟨ZfL,94,true⟩]}
def ZcE (a:List Int×List INPT×PUnit):RT (Option (Go1 (List Int×List INPT×PUnit))):=
 let x1:=decide (0<=4)&&decide (4<=iN (Le a.1))&&(decide (iN (Le a.1)=0)||decide (iN (Le a.1)<=iN (Le a.1)))
 let x2:=ZyL (R.get Ka a.1 0) (R.get Ka a.1 (iN (0+1))) (R.get Ka a.1 (iN (0+1+1)))==R.get Ka a.1 (iN (0+1+1+1))
 let x3:List INPT:=a.2.1++[(bif x2 then (Zay (R.get Ka a.1 0)).1 else Zf9.1,bif x2 then (Zay (R.get Ka a.1 0)).2.1 else Zf9.2.1,bif x2 then (Zay (R.get Ka a.1 0)).2.2.1 else Zf9.2.2.1,bif x2 then (Zay (R.get Ka a.1 0)).2.2.2.1 else Zf9.2.2.2.1,bif x2 then (Zay (R.get Ka a.1 0)).2.2.2.2.1 else Zf9.2.2.2.2.1,bif x2 then (Zay (R.get Ka a.1 0)).2.2.2.2.2.1 else Zf9.2.2.2.2.2.1,bif x2 then (Zay (R.get Ka a.1 0)).2.2.2.2.2.2.1 else Zf9.2.2.2.2.2.2.1,bif x2 then (Zay (R.get Ka a.1 0)).2.2.2.2.2.2.2.1 else Zf9.2.2.2.2.2.2.2.1,bif x2 then R.get Ka a.1 (iN (0+1)) else Zf9.2.2.2.2.2.2.2.2.1,bif x2 then R.get Ka a.1 (iN (0+1+1)) else Zf9.2.2.2.2.2.2.2.2.2)]
 .br (decide (iN (Le a.1)>=4)&&decide (iN (Le a.2.1)<65536)) (.br (!Nat.ble 4 (Le a.1)||(!x1||Nat.ble (Le x3) most)) (.br (!Nat.ble 4 (Le a.1)||x1) (.br (Nat.ble 4 (Le a.1)) (Ls (Go1.cont (subL a.1 4 (iN (Le a.1)),x3,PUnit.unit))) Ln) Ln) Ln) (Ls (Go1.brk (a.1,a.2.1,PUnit.unit)))
def ZmH:Ora:=Zbq false ZyK ZcE (λa=>1000000000000)
theorem ZrR:Za1 (envX prog [(60,ZyI),(61,ZrT),(62,ZrQ)] [] 63 8) (.block 0 (.loop (Z5 Tryz.f24.body 0))) ZmH:=
 loopP ⟨ZvC,Zqk,Zqi,Tv⟩
def Zgx (l:List Int):RT (Option (List INPT)):=
 .br (okB (runF false ZcE (λa=>1000000000000) (l,[],()))) (Ls (getO (false,l,[],()) (runF false ZcE (λa=>1000000000000) (l,[],()))).2.2.1) Ln
def ZrS (l:List Int):List INPT:=getO ZoB.Df (Zgx l).val
def ZmI (l:List Int):Bool:=okB (Zgx l).val
def ZJo:En:=Zf Zhj ZoB (λa=>some (ZmI a)) (λa=>ZrS a)
theorem ZyJ:Za prog 24 ZJo:=
 pureP 63 [(60,ZyI),(61,ZrT),(62,ZrQ)] [(0,ZmH)] _ _ ⟨ZvC,Zqk,Zqi,Tv⟩ Tryz.func24 Tryz.call24 ⟨ZrR,Tv⟩
theorem ZNR:(List.range 256).all (λc=>(List.all [(Zay (c:Int)).1==(andI u8 (c:Int) 1==0),(Zay (c:Int)).2.1==(andI u8 (c:Int) 2 !=0),(Zay (c:Int)).2.2.1==(andI u8 (c:Int) 4 !=0),(Zay (c:Int)).2.2.2.1==(andI u8 (c:Int) 8 !=0),
  (Zay (c:Int)).2.2.2.2.1==(andI u8 (c:Int) 16 !=0),(Zay (c:Int)).2.2.2.2.2.1==(andI u8 (c:Int) 32 !=0),(Zay (c:Int)).2.2.2.2.2.2.1==(andI u8 (c:Int) 64 !=0),(Zay (c:Int)).2.2.2.2.2.2.2.1==(andI u8 (c:Int) 128 !=0)] id))=true:=by kernel_rfl
theorem ZRP {c:Int} (h:inR .u8 c):(Zay c).1=(andI u8 c 1==0)/\(Zay c).2.1=(andI u8 c 2 !=0)/\(Zay c).2.2.1=(andI u8 c 4 !=0)/\(Zay c).2.2.2.1=(andI u8 c 8 !=0)/\
  (Zay c).2.2.2.2.1=(andI u8 c 16 !=0)/\(Zay c).2.2.2.2.2.1=(andI u8 c 32 !=0)/\(Zay c).2.2.2.2.2.2.1=(andI u8 c 64 !=0)/\(Zay c).2.2.2.2.2.2.2.1=(andI u8 c 128 !=0):=by rw[Zgc] at h;obtain⟨n,rfl⟩:∃n:Nat,c=(n:Int):=⟨c.toNat,by omega⟩;have:=YU.1 ZNR n (by simp;omega);simpa [List.all_cons] using this
theorem dec4 (l:List Int) (h:4<=l.length):l=R.get (R.int .u8) l 0::R.get (R.int .u8) l 1::R.get (R.int .u8) l 2::R.get (R.int .u8) l 3::l.drop 4:=by have:=drop4 l 0 (by omega);rw[List.drop_zero] at this;exact this
theorem ZWS (h:∀x∈l,inR .u8 x) (i:Int):inR .u8 (R.get (R.int .u8) l i):=by
 unfold R.get;rw[Yl];cases hq:l[i.toNat]? with
 |none=>exact⟨by decide,by decide⟩
 |some a=>exact h a (List.mem_of_getElem? hq)
theorem sub4 (l:List Int):subL l 4 (iN l.length)=l.drop 4:=by
 simp only[subL,iN,Le];have e1:((4:Int).toNat)=4:=rfl;have e2:((l.length:Int)-4).toNat=l.length-4:=by omega
 first
  |(rw[e1,e2];exact YW (by simp))
  |(simp;exact YW (by simp))
theorem Zqj (l:List Int) (hl:l.length<=4000) (hin:∀x∈l,inR .u8 x):ZmI l=true/\ZrS l=decX l:=by
 have hms:=mst;obtain⟨r,hr,h0,h1⟩:=ZK (fl:=false) (t:=ZcE) (fuel:=λ_=>1000000000000)
  (λa=>∃(q:List Int) (o:List INPT),q.length+4*o.length=l.length/\(∀x∈q,inR .u8 x)/\o++decX q=decX l/\a=(q,o,()))
  (λa=>a.1.length) (λr=>r.1=false/\r.2.2.1=decX l)
  (by
   rintro a ⟨q,o,hq,hi,hd,rfl⟩;by_cases hlt:4<=q.length
   ·left;have d:(decide (iN q.length>=4)&&decide (iN o.length<65536))=true:=by simp only[iN,Le,Yb,Yf];omega
    have d1:decide (iN o.length<65536)=true:=by simp only[iN,Le,Yf];omega
    have b4:Nat.ble 4 q.length=true:=by rw[Yy];exact hlt
    have d4:decide (4<=iN q.length)=true:=by simp only[iN,Le,Yf];omega
    have d0:decide ((0:Int)<=4)=true:=rfl;have dl:decide (iN q.length<=iN q.length)=true:=by simp
    have hb:∀a:INPT,Nat.ble (o++[a]).length most=true:=λa=>Zby (by simp;omega)
    have i1:iN (0+1)=(1:Int):=rfl;have i2:iN (0+1+1)=(2:Int):=rfl;have i3:iN (0+1+1+1)=(3:Int):=rfl;have hin0:=ZWS hi 0;have hdr:q=R.get (R.int .u8) q 0::R.get (R.int .u8) q 1::R.get (R.int .u8) q 2::R.get (R.int .u8) q 3::q.drop 4:=dec4 q hlt;rw[hdr] at hd;have hck:∀a b c,ZyL a b c=ZhM a b c:=λa b c=>rfl
    obtain⟨q0,hq0⟩:∃q0,R.get (R.int .u8) q 0=q0:=⟨_,rfl⟩;obtain⟨q1,hq1⟩:∃q0,R.get (R.int .u8) q 1=q0:=⟨_,rfl⟩;obtain⟨q2,hq2⟩:∃q0,R.get (R.int .u8) q 2=q0:=⟨_,rfl⟩;obtain⟨q3,hq3⟩:∃q0,R.get (R.int .u8) q 3=q0:=⟨_,rfl⟩;rw[hq0,hq1,hq2,hq3] at hd;rw[hq0] at hin0;have hv:(ZcE (q,o,())).val=some (Go1.cont (q.drop 4,o++[inpX q0 q1 q2 q3],())):=by
     obtain⟨e1,e2,e3,e4,e5,e6,e7,e8⟩:=ZRP hin0;simp only[ZcE,RT.val,d,b4,d0,d4,dl,hb,i1,i2,i3,hq0,hq1,hq2,hq3,hck,sub4,e1,e2,e3,e4,e5,e6,e7,e8,ZbO,ZaW,Yk,Yh,Yj,Yx,Y1,YQ,Ya,Yc];have hcm:(q3==ZhM q0 q1 q2)=(ZhM q0 q1 q2==q3):=Bool.eq_iff_iff.2 ⟨λh=>YaA.2 (YaA.1 h).symm,λh=>YaA.2 (YaA.1 h).symm⟩;have hne:(q3 !=ZhM q0 q1 q2)= !(ZhM q0 q1 q2==q3):=by rw[bne,hcm]
     have hs:Zf9=ZN:=rfl;unfold inpX;rw[hne];generalize (ZhM q0 q1 q2==q3)=bb;cases bb
     ·simp only[d1,Ya,Yc,Yh,Ym,hs];rfl
     ·simp only[d1,Ya,Yc,Yh,Ym];rfl
    refine⟨_,hv,⟨q.drop 4,o++[inpX q0 q1 q2 q3],by simp;omega,λx hx=>hi x (Yaw hx),?_,rfl⟩,by simp;omega⟩;rw[<-hd];simp only[decX,Yo,List.cons_append,List.nil_append]
   ·right;left;have d:(decide (iN q.length>=4)&&decide (iN o.length<65536))=false:=by simp only[iN,Le,Yan,Y5];left;omega
    refine⟨(q,o,()),by simp only[ZcE,RT.val,d,Yc],rfl,?_⟩;rw[ZOM (by omega),YG] at hd
    exact hd)
  (l,[],()) ⟨l,[],by simp,hin,by simp,rfl⟩ (by simp only;omega)
 obtain⟨r1,r2⟩:=r;simp only at h0 h1;subst h0;have hv:(Zgx l).val=some r2.2.1:=by simp only[Zgx,RT.val,hr,okB,getO,Ya]
 exact⟨by simp only[ZmI,hv];rfl,by simp only[ZrS,hv,getO];exact h1⟩
theorem dec_in {a:List Int} (h:okHL Zhj a):∀x∈a,inR .u8 x:=h.2
def ZyQ (l:List Int):Bool:=Nat.ble l.length 4000
def Zj3:En:=Zf Zhj ZoB (λa=>some (ZyQ a)) (λa=>decX a)
theorem ZkY:Za Tryz.prog 24 Zj3:=ZyJ.pure_congr
 (λa h hp=>by
  have hl:a.length<=4000:=by simpa [ZyQ] using hp
  have h1:=(Zqj a hl (dec_in h)).1
  simp[h1])
 (λa h hp=>by
  have hl:a.length<=4000:=by simpa [ZyQ] using hp
  exact (Zqj a hl (dec_in h)).2)
